/-
  The walks of package isa, fourth part: read.
-/
import Derived.Test.YtpbffmkdchiajaaDoorWord
import Derived.RegionTactic
namespace Go.Proofs.YtpbffmkdchiajaaDoor
open Go.RowKit Go.Lib
structure R4 where
  d : Int
  a : Int
  b : Int
  i : Int
def rStep (x : Int) (r : R4) (c : UInt8) : R4 :=
  if c = 100 then { r with d := getF x 6 5 } else if c = 97 then { r with a := getF x 11 5 } else if c = 98 then { r with b := getF x 16 5 }
  else if c = 105 then { r with i := signedF x 16 } else if c = 109 then { r with i := 4 * signedF (getF x 16 14) 14 } else if c = 111 then { r with i := signedF (getF x 16 14) 14 }
  else if c = 108 then { r with i := signedF (getF x 6 24) 24 } else if c = 99 then { r with d := getF x 6 5, a := getF x 11 5 } else r
def rL (x : Int) (l : List UInt8) : R4 := l.foldl (rStep x) ⟨0, 0, 0, 0⟩
theorem rL_snoc (x : Int) (l : List UInt8) (c : UInt8) : rL x (l ++ [c]) = rStep x (rL x l) c := by rw [rL, List.foldl_append]; rfl
structure ReadRel (w : World) (op x : Int) (s : ByteArray) (k : Nat) (wr : World) : Prop where
  below : Below w.heap.size w wr
  res : Blk wr w.heap.size #[.int .i64 0, .int .i64 0, .int .i64 0, .int .i64 0, .int .i64 0] 23
  out : Blk wr (w.heap.size + 1) #[.int .i64 op, .int .i64 (rL x (s.data.toList.take k)).d, .int .i64 (rL x (s.data.toList.take k)).a, .int .i64 (rL x (s.data.toList.take k)).b, .int .i64 (rL x (s.data.toList.take k)).i] 23
  byts : Byts wr (w.heap.size + 1 + 1) s
theorem ReadRel.drewN {w wr : World} {op x : Int} {s : ByteArray} {k : Nat} (h : ReadRel w op x s k wr) (n : Nat) : ReadRel w op x s k (wr.drewN n) :=
  ⟨below_drewN h.below n, h.res.drewN n, h.out.drewN n, h.byts⟩
theorem read_d {w wr : World} {op x : Int} {s : ByteArray} {k : Nat} {c : UInt8} (hr : ReadRel w op x s k wr) (hlt : k < s.size) (hcc : s.data.toList.getD k 0 = c) (hc : c.toNat = 100) :
    ReadRel w op x s (k + 1) (wr.setCell ⟨w.heap.size + 1, 1, none⟩ (.int .i64 (getF x 6 5))) := by
  have hsn := take_snoc s.data.toList k (by simpa using hlt)
  obtain rfl : c = 100 := UInt8.toNat_inj.1 hc
  constructor
  · exact hr.below.setCell (by simp) _
  · exact hr.res.set_ne (by simp) _
  · have h := hr.out.set 1 (.int .i64 (getF x 6 5))
    rw [hsn, hcc, rL_snoc]
    simpa [rStep] using h
  · exact hr.byts.set_ne (by simp) _
theorem read_a {w wr : World} {op x : Int} {s : ByteArray} {k : Nat} {c : UInt8} (hr : ReadRel w op x s k wr) (hlt : k < s.size) (hcc : s.data.toList.getD k 0 = c) (hc : c.toNat = 97) :
    ReadRel w op x s (k + 1) (wr.setCell ⟨w.heap.size + 1, 2, none⟩ (.int .i64 (getF x 11 5))) := by
  have hsn := take_snoc s.data.toList k (by simpa using hlt)
  obtain rfl : c = 97 := UInt8.toNat_inj.1 hc
  constructor
  · exact hr.below.setCell (by simp) _
  · exact hr.res.set_ne (by simp) _
  · have h := hr.out.set 2 (.int .i64 (getF x 11 5))
    rw [hsn, hcc, rL_snoc]
    simpa [rStep] using h
  · exact hr.byts.set_ne (by simp) _
theorem read_b {w wr : World} {op x : Int} {s : ByteArray} {k : Nat} {c : UInt8} (hr : ReadRel w op x s k wr) (hlt : k < s.size) (hcc : s.data.toList.getD k 0 = c) (hc : c.toNat = 98) :
    ReadRel w op x s (k + 1) (wr.setCell ⟨w.heap.size + 1, 3, none⟩ (.int .i64 (getF x 16 5))) := by
  have hsn := take_snoc s.data.toList k (by simpa using hlt)
  obtain rfl : c = 98 := UInt8.toNat_inj.1 hc
  constructor
  · exact hr.below.setCell (by simp) _
  · exact hr.res.set_ne (by simp) _
  · have h := hr.out.set 3 (.int .i64 (getF x 16 5))
    rw [hsn, hcc, rL_snoc]
    simpa [rStep] using h
  · exact hr.byts.set_ne (by simp) _
theorem read_i {w wr : World} {op x : Int} {s : ByteArray} {k : Nat} {c : UInt8} (hr : ReadRel w op x s k wr) (hlt : k < s.size) (hcc : s.data.toList.getD k 0 = c) (hc : c.toNat = 105) :
    ReadRel w op x s (k + 1) (wr.setCell ⟨w.heap.size + 1, 4, none⟩ (.int .i64 (signedF x 16))) := by
  have hsn := take_snoc s.data.toList k (by simpa using hlt)
  obtain rfl : c = 105 := UInt8.toNat_inj.1 hc
  constructor
  · exact hr.below.setCell (by simp) _
  · exact hr.res.set_ne (by simp) _
  · have h := hr.out.set 4 (.int .i64 (signedF x 16))
    rw [hsn, hcc, rL_snoc]
    simpa [rStep] using h
  · exact hr.byts.set_ne (by simp) _
theorem read_m {w wr : World} {op x : Int} {s : ByteArray} {k : Nat} {c : UInt8} (hr : ReadRel w op x s k wr) (hlt : k < s.size) (hcc : s.data.toList.getD k 0 = c) (hc : c.toNat = 109) :
    ReadRel w op x s (k + 1) (wr.setCell ⟨w.heap.size + 1, 4, none⟩ (.int .i64 (4 * signedF (getF x 16 14) 14))) := by
  have hsn := take_snoc s.data.toList k (by simpa using hlt)
  obtain rfl : c = 109 := UInt8.toNat_inj.1 hc
  constructor
  · exact hr.below.setCell (by simp) _
  · exact hr.res.set_ne (by simp) _
  · have h := hr.out.set 4 (.int .i64 (4 * signedF (getF x 16 14) 14))
    rw [hsn, hcc, rL_snoc]
    simpa [rStep] using h
  · exact hr.byts.set_ne (by simp) _
theorem read_o {w wr : World} {op x : Int} {s : ByteArray} {k : Nat} {c : UInt8} (hr : ReadRel w op x s k wr) (hlt : k < s.size) (hcc : s.data.toList.getD k 0 = c) (hc : c.toNat = 111) :
    ReadRel w op x s (k + 1) (wr.setCell ⟨w.heap.size + 1, 4, none⟩ (.int .i64 (signedF (getF x 16 14) 14))) := by
  have hsn := take_snoc s.data.toList k (by simpa using hlt)
  obtain rfl : c = 111 := UInt8.toNat_inj.1 hc
  constructor
  · exact hr.below.setCell (by simp) _
  · exact hr.res.set_ne (by simp) _
  · have h := hr.out.set 4 (.int .i64 (signedF (getF x 16 14) 14))
    rw [hsn, hcc, rL_snoc]
    simpa [rStep] using h
  · exact hr.byts.set_ne (by simp) _
theorem read_l {w wr : World} {op x : Int} {s : ByteArray} {k : Nat} {c : UInt8} (hr : ReadRel w op x s k wr) (hlt : k < s.size) (hcc : s.data.toList.getD k 0 = c) (hc : c.toNat = 108) :
    ReadRel w op x s (k + 1) (wr.setCell ⟨w.heap.size + 1, 4, none⟩ (.int .i64 (signedF (getF x 6 24) 24))) := by
  have hsn := take_snoc s.data.toList k (by simpa using hlt)
  obtain rfl : c = 108 := UInt8.toNat_inj.1 hc
  constructor
  · exact hr.below.setCell (by simp) _
  · exact hr.res.set_ne (by simp) _
  · have h := hr.out.set 4 (.int .i64 (signedF (getF x 6 24) 24))
    rw [hsn, hcc, rL_snoc]
    simpa [rStep] using h
  · exact hr.byts.set_ne (by simp) _
theorem read_c {w wr : World} {op x : Int} {s : ByteArray} {k : Nat} {c : UInt8} (hr : ReadRel w op x s k wr) (hlt : k < s.size) (hcc : s.data.toList.getD k 0 = c) (hc : c.toNat = 99) :
    ReadRel w op x s (k + 1) ((wr.setCell ⟨w.heap.size + 1, 1, none⟩ (.int .i64 (getF x 6 5))).setCell ⟨w.heap.size + 1, 2, none⟩ (.int .i64 (getF x 11 5))) := by
  have hsn := take_snoc s.data.toList k (by simpa using hlt)
  obtain rfl : c = 99 := UInt8.toNat_inj.1 hc
  constructor
  · exact (hr.below.setCell (by simp) _).setCell (by simp) _
  · exact (hr.res.set_ne (by simp) _).set_ne (by simp) _
  · have h := (hr.out.set 1 (.int .i64 (getF x 6 5))).set 2 (.int .i64 (getF x 11 5))
    rw [hsn, hcc, rL_snoc]
    simpa [rStep] using h
  · exact (hr.byts.set_ne (by simp) _).set_ne (by simp) _
theorem read_x {w wr : World} {op x : Int} {s : ByteArray} {k : Nat} {c : UInt8} (hr : ReadRel w op x s k wr) (hlt : k < s.size) (hcc : s.data.toList.getD k 0 = c)
    (hc : c.toNat ≠ 100 ∧ c.toNat ≠ 97 ∧ c.toNat ≠ 98 ∧ c.toNat ≠ 105 ∧ c.toNat ≠ 109 ∧ c.toNat ≠ 111 ∧ c.toNat ≠ 108 ∧ c.toNat ≠ 99) : ReadRel w op x s (k + 1) wr := by
  have hsn := take_snoc s.data.toList k (by simpa using hlt)
  have e : rL x (s.data.toList.take (k + 1)) = rL x (s.data.toList.take k) := by
    rw [hsn, hcc, rL_snoc]
    unfold rStep
    rw [if_neg (fun e => hc.1 (by rw [e]; rfl)), if_neg (fun e => hc.2.1 (by rw [e]; rfl)), if_neg (fun e => hc.2.2.1 (by rw [e]; rfl)), if_neg (fun e => hc.2.2.2.1 (by rw [e]; rfl)),
      if_neg (fun e => hc.2.2.2.2.1 (by rw [e]; rfl)), if_neg (fun e => hc.2.2.2.2.2.1 (by rw [e]; rfl)), if_neg (fun e => hc.2.2.2.2.2.2.1 (by rw [e]; rfl)), if_neg (fun e => hc.2.2.2.2.2.2.2 (by rw [e]; rfl))]
  exact ⟨hr.below, hr.res, by rw [e]; exact hr.out, hr.byts⟩
set_option maxHeartbeats 2000000 in
theorem read_any (op x : Int) (s : ByteArray) (w : World) (ho : 1 ≤ op) (ho' : op ≤ 22) (hs : s.size ≤ 100) (h0 : 0 ≤ x) (h1 : x < 4294967296)
   (hg : w.cell? ⟨0, op.toNat * 3 + 1, none⟩ = some (.string s)) (hw : 0 < w.heap.size) :
    Calls Tryd.prog 59 #[.int .i64 op, .int .u32 x] w fun e w' =>
      e = .returned (.agg #[.int .i64 op, .int .i64 (rL x s.data.toList).d, .int .i64 (rL x s.data.toList).a, .int .i64 (rL x s.data.toList).b, .int .i64 (rL x s.data.toList).i]) ∧ Below w.heap.size w w' := by
  have kb := fun W => Lib.run_convert_string_bytes (P := Tryd.prog) W 9 89 5 s Tryd.underlying9 Tryd.underlying89 Tryd.underlying5
  go_enter Tryd.func59, Tryd.ntmps59
  go_wp2
  clear kb hg
  go_loopw [16] (fun i wr => ∃ k : Nat, k ≤ s.size ∧ i = .int .i64 k ∧ ReadRel w op x s k wr) (fun i _ => s.size - (intOf i).toNat)
  case atStart =>
    have b0 : Below w.heap.size w ((w.alloc (Obj.cells #[.int .i64 0, .int .i64 0, .int .i64 0, .int .i64 0, .int .i64 0] 23)).alloc (Obj.cells #[.int .i64 op, .int .i64 0, .int .i64 0, .int .i64 0, .int .i64 0] 23)) := ((Below.refl _ _).alloc (by simp) _).alloc (by simp) _
    have B : ∀ W : World, Below W.heap.size W (Lib.bytesWorld W 5 s) := fun W => bytes_below (Below.refl _ _) (Nat.le_refl _) 5 s
    refine ⟨0, Nat.zero_le _, rfl, ?_, ?_, ?_, ?_⟩
    · exact bytes_below b0 (by simp; omega) 5 s
    · exact ((Blk.new _ _ _).alloc _).below (B _) (by simp; omega)
    · have h := (Blk.new (w.alloc (Obj.cells #[.int .i64 0, .int .i64 0, .int .i64 0, .int .i64 0, .int .i64 0] 23)) #[.int .i64 op, .int .i64 0, .int .i64 0, .int .i64 0, .int .i64 0] 23).below (B _) (by simp)
      simpa [rL] using h
    · have h := Byts.new ((w.alloc (Obj.cells #[.int .i64 0, .int .i64 0, .int .i64 0, .int .i64 0, .int .i64 0] 23)).alloc (Obj.cells #[.int .i64 op, .int .i64 0, .int .i64 0, .int .i64 0, .int .i64 0] 23)) s 5
      simpa using h
  case round =>
    obtain ⟨k, hk, rfl, hr⟩ := hrel
    have g65 : 0 ≤ getF x 6 5 ∧ getF x 6 5 < 32 := getF_rng x 6 5 (by omega) (by omega) h0 h1
    have g115 : 0 ≤ getF x 11 5 ∧ getF x 11 5 < 32 := getF_rng x 11 5 (by omega) (by omega) h0 h1
    have g165 : 0 ≤ getF x 16 5 ∧ getF x 16 5 < 32 := getF_rng x 16 5 (by omega) (by omega) h0 h1
    have g1614 : 0 ≤ getF x 16 14 ∧ getF x 16 14 < 16384 := getF_rng x 16 14 (by omega) (by omega) h0 h1
    have g624 : 0 ≤ getF x 6 24 ∧ getF x 6 24 < 16777216 := getF_rng x 6 24 (by omega) (by omega) h0 h1
    have s14 : -4294967296 ≤ signedF (getF x 16 14) 14 ∧ signedF (getF x 16 14) 14 < 4294967296 := signedF_rng (getF x 16 14) 14 (by omega) (by omega) (by omega) (by omega)
    have a16 : Hid (0 ≤ bits .and .u32 x (maskF 16) ∧ bits .and .u32 x (maskF 16) < 4294967296) := and_rng x 16 (by omega) h0 h1
    have a14 : Hid (0 ≤ bits .and .u32 (getF x 16 14) (maskF 14) ∧ bits .and .u32 (getF x 16 14) (maskF 14) < 4294967296) := and_rng (getF x 16 14) 14 (by omega) (by omega) (by omega)
    have a24 : Hid (0 ≤ bits .and .u32 (getF x 6 24) (maskF 24) ∧ bits .and .u32 (getF x 6 24) (maskF 24) < 4294967296) := and_rng (getF x 6 24) 24 (by omega) (by omega) (by omega)
    have f1 := hr.out.free 1
    have f2 := hr.out.free 2
    have f3 := hr.out.free 3
    have f4 := hr.out.free 4
    have o0 := hr.out.cell 0
    have o1 := hr.out.cell 1
    have o2 := hr.out.cell 2
    have o3 := hr.out.cell 3
    have o4 := hr.out.cell 4
    have r0 := hr.res.cell 0
    have r1 := hr.res.cell 1
    have r2 := hr.res.cell 2
    have r3 := hr.res.cell 3
    have r4 := hr.res.cell 4
    have q0 := hr.res.free 0
    have q1 := hr.res.free 1
    have q2 := hr.res.free 2
    have q3 := hr.res.free 3
    have q4 := hr.res.free 4
    simp at o0 o1 o2 o3 o4 r0 r1 r2 r3 r4
    by_cases hlt : k < s.size
    · have hb := hr.byts k hlt
      generalize hcc : s.data.toList.getD k 0 = c at *
      have Hcc := Lib.hid hcc
      clear hcc
      have hn : k + 1 ≤ s.size := hlt
      go_wp2_with (first | (go_at_call 119; refine (get_any _ _ _ _ (by omega) (by omega) (by omega)).mono ?_; rintro e w1 ⟨rfl, m, rfl⟩) | (go_at_call 120; refine (signed_any _ _ _ (by omega) (by omega) ?_ ?_).mono ?_; (first | (with_reducible exact a16.out.1) | (with_reducible exact a14.out.1) | (with_reducible exact a24.out.1)); (first | (with_reducible exact a16.out.2) | (with_reducible exact a14.out.2) | (with_reducible exact a24.out.2)); rintro e w1 ⟨rfl, rfl⟩))
      · exact ⟨⟨k + 1, hn, by go_num, read_d (hr.drewN _) hlt Hcc.out (u8_is (by assumption))⟩, by simp [intOf]; omega⟩
      · exact ⟨⟨k + 1, hn, by go_num, read_a (hr.drewN _) hlt Hcc.out (u8_is (by assumption))⟩, by simp [intOf]; omega⟩
      · exact ⟨⟨k + 1, hn, by go_num, read_b (hr.drewN _) hlt Hcc.out (u8_is (by assumption))⟩, by simp [intOf]; omega⟩
      · exact ⟨⟨k + 1, hn, by go_num, read_i hr hlt Hcc.out (u8_is (by assumption))⟩, by simp [intOf]; omega⟩
      · exact ⟨⟨k + 1, hn, by go_num, read_m (hr.drewN _) hlt Hcc.out (u8_is (by assumption))⟩, by simp [intOf]; omega⟩
      · exact ⟨⟨k + 1, hn, by go_num, read_o (hr.drewN _) hlt Hcc.out (u8_is (by assumption))⟩, by simp [intOf]; omega⟩
      · exact ⟨⟨k + 1, hn, by go_num, read_l (hr.drewN _) hlt Hcc.out (u8_is (by assumption))⟩, by simp [intOf]; omega⟩
      · exact ⟨⟨k + 1, hn, by go_num, read_c (hr.drewN _) hlt Hcc.out (u8_is (by assumption))⟩, by simp [intOf]; omega⟩
      · refine ⟨⟨k + 1, hn, by go_num, read_x hr hlt Hcc.out ?_⟩, by simp [intOf]; omega⟩
        refine ⟨?_, ?_, ?_, ?_, ?_, ?_, ?_, ?_⟩ <;> exact u8_isnt (by assumption)
    · have hke : k = s.size := by omega
      go_wp2
      refine bodyPost_agg (b := w.heap.size) Tryd.results59 rfl (((((hr.res.set 0 _).set 1 _).set 2 _).set 3 _).set 4 _) (fun _ => by kernel_rfl) (fun _ => by kernel_rfl) rfl ⟨?_, ?_⟩
      · subst hke
        have hT : s.data.toList.take s.size = s.data.toList := List.take_of_length_le (by simp)
        simp [hT]
      · exact (((((hr.below.setCell (by simp) _).setCell (by simp) _).setCell (by simp) _).setCell (by simp) _).setCell (by simp) _)
end Go.Proofs.YtpbffmkdchiajaaDoor

import Derived.Test.YtpbffmkdchiajaaDoorRows
import Derived.Test.YtpbffmkdchiajaaDoorBase
import Derived.RegionTactic
namespace Go.Proofs.YtpbffmkdchiajaaDoor
open Go.RowKit Go.Lib
/-- what 'used' has set behind k bytes -/
def uD (l : List UInt8) (d : Int) : Int := if l.contains 100 || l.contains 99 then d else 0
def uA (l : List UInt8) (a : Int) : Int := if l.contains 97 || l.contains 99 then a else 0
def uB (l : List UInt8) (b : Int) : Int := if l.contains 98 then b else 0
def uI (l : List UInt8) (i : Int) : Int := if l.any (fun c => !(c == 100 || c == 97 || c == 98 || c == 99)) then i else 0
structure UsedRel (w : World) (op d a b imm : Int) (s : ByteArray) (k : Nat) (wr : World) : Prop where
  below : Below w.heap.size w wr
  prm : Blk wr w.heap.size #[.int .i64 op, .int .i64 d, .int .i64 a, .int .i64 b, .int .i64 imm] 23
  res : Blk wr (w.heap.size + 1) #[.int .i64 0, .int .i64 0, .int .i64 0, .int .i64 0, .int .i64 0] 23
  out : Blk wr (w.heap.size + 1 + 1) #[.int .i64 op, .int .i64 (uD (s.data.toList.take k) d), .int .i64 (uA (s.data.toList.take k) a), .int .i64 (uB (s.data.toList.take k) b), .int .i64 (uI (s.data.toList.take k) imm)] 23
  byts : Byts wr (w.heap.size + 1 + 1 + 1) s
theorem used_d {w wr : World} {op d a b imm : Int} {s : ByteArray} {k : Nat} {c : UInt8} (hr : UsedRel w op d a b imm s k wr) (hlt : k < s.size) (hcc : s.data.toList.getD k 0 = c) (hc : c.toNat = 100) :
    UsedRel w op d a b imm s (k + 1) (wr.setCell ⟨w.heap.size + 1 + 1, 1, none⟩ (.int .i64 d)) := by
  have hsn := take_snoc s.data.toList k (by simpa using hlt)
  have hout := hr.out
  constructor
  · exact hr.below.setCell (by simp; omega) _
  · exact hr.prm.set_ne (by simp; omega) _
  · exact hr.res.set_ne (by simp) _
  · have h := hr.out.set 1 (.int .i64 d)
    rw [hsn, hcc]
    obtain rfl : c = 100 := UInt8.toNat_inj.1 hc
    simpa [uD, uA, uB, uI] using h
  · exact hr.byts.set_ne (by simp) _
theorem used_a {w wr : World} {op d a b imm : Int} {s : ByteArray} {k : Nat} {c : UInt8} (hr : UsedRel w op d a b imm s k wr) (hlt : k < s.size) (hcc : s.data.toList.getD k 0 = c) (hc : c.toNat = 97) :
    UsedRel w op d a b imm s (k + 1) (wr.setCell ⟨w.heap.size + 1 + 1, 2, none⟩ (.int .i64 a)) := by
  have hsn := take_snoc s.data.toList k (by simpa using hlt)
  have hout := hr.out
  constructor
  · exact hr.below.setCell (by simp; omega) _
  · exact hr.prm.set_ne (by simp; omega) _
  · exact hr.res.set_ne (by simp) _
  · have h := hr.out.set 2 (.int .i64 a)
    rw [hsn, hcc]
    obtain rfl : c = 97 := UInt8.toNat_inj.1 hc
    simpa [uD, uA, uB, uI] using h
  · exact hr.byts.set_ne (by simp) _
theorem used_b {w wr : World} {op d a b imm : Int} {s : ByteArray} {k : Nat} {c : UInt8} (hr : UsedRel w op d a b imm s k wr) (hlt : k < s.size) (hcc : s.data.toList.getD k 0 = c) (hc : c.toNat = 98) :
    UsedRel w op d a b imm s (k + 1) (wr.setCell ⟨w.heap.size + 1 + 1, 3, none⟩ (.int .i64 b)) := by
  have hsn := take_snoc s.data.toList k (by simpa using hlt)
  have hout := hr.out
  constructor
  · exact hr.below.setCell (by simp; omega) _
  · exact hr.prm.set_ne (by simp; omega) _
  · exact hr.res.set_ne (by simp) _
  · have h := hr.out.set 3 (.int .i64 b)
    rw [hsn, hcc]
    obtain rfl : c = 98 := UInt8.toNat_inj.1 hc
    simpa [uD, uA, uB, uI] using h
  · exact hr.byts.set_ne (by simp) _
theorem used_i {w wr : World} {op d a b imm : Int} {s : ByteArray} {k : Nat} {c : UInt8} (hr : UsedRel w op d a b imm s k wr) (hlt : k < s.size) (hcc : s.data.toList.getD k 0 = c) (h1 : c.toNat ≠ 100) (h2 : c.toNat ≠ 97) (h3 : c.toNat ≠ 98) (h4 : c.toNat ≠ 99) :
    UsedRel w op d a b imm s (k + 1) (wr.setCell ⟨w.heap.size + 1 + 1, 4, none⟩ (.int .i64 imm)) := by
  have hsn := take_snoc s.data.toList k (by simpa using hlt)
  have hout := hr.out
  constructor
  · exact hr.below.setCell (by simp; omega) _
  · exact hr.prm.set_ne (by simp; omega) _
  · exact hr.res.set_ne (by simp) _
  · have h := hr.out.set 4 (.int .i64 imm)
    rw [hsn, hcc]
    have n1 : c ≠ 100 := fun e => h1 (by rw [e]; rfl)
    have n2 : c ≠ 97 := fun e => h2 (by rw [e]; rfl)
    have n3 : c ≠ 98 := fun e => h3 (by rw [e]; rfl)
    have n4 : c ≠ 99 := fun e => h4 (by rw [e]; rfl)
    simpa [uD, uA, uB, uI, n1, n2, n3, n4, Ne.symm n1, Ne.symm n2, Ne.symm n3, Ne.symm n4] using h
  · exact hr.byts.set_ne (by simp) _
theorem used_c {w wr : World} {op d a b imm : Int} {s : ByteArray} {k : Nat} {c : UInt8} (hr : UsedRel w op d a b imm s k wr) (hlt : k < s.size) (hcc : s.data.toList.getD k 0 = c) (hc : c.toNat = 99) :
    UsedRel w op d a b imm s (k + 1) (((wr.setCell ⟨w.heap.size + 1 + 1, 1, none⟩ (.int .i64 d)).setCell ⟨w.heap.size + 1 + 1, 2, none⟩ (.int .i64 a)).drew) := by
  have hsn := take_snoc s.data.toList k (by simpa using hlt)
  have hout := hr.out
  constructor
  · exact ((hr.below.setCell (by simp; omega) _).setCell (by simp; omega) _).drew
  · exact ((hr.prm.set_ne (by simp; omega) _).set_ne (by simp; omega) _).drew
  · exact ((hr.res.set_ne (by simp) _).set_ne (by simp) _).drew
  · have h := ((hr.out.set 1 (.int .i64 d)).set 2 (.int .i64 a)).drew
    rw [hsn, hcc]
    obtain rfl : c = 99 := UInt8.toNat_inj.1 hc
    simpa [uD, uA, uB, uI] using h
  · exact fun j hj => ((hr.byts.set_ne (a := ⟨w.heap.size + 1 + 1, 1, none⟩) (by simp) _).set_ne (a := ⟨w.heap.size + 1 + 1, 2, none⟩) (by simp) _) j hj
set_option maxHeartbeats 800000 in
theorem used_any (op d a b imm : Int) (s : ByteArray) (w : World) (ho : 1 ≤ op) (ho' : op ≤ 22) (hs : s.size ≤ 100) 
   (hg : w.cell? ⟨0, op.toNat * 3 + 1, none⟩ = some (.string s)) (hw : 0 < w.heap.size) :
    Calls Tryd.prog 54 #[.agg #[.int .i64 op, .int .i64 d, .int .i64 a, .int .i64 b, .int .i64 imm]] w fun e w' =>
      e = .returned (.agg #[.int .i64 op, .int .i64 (uD s.data.toList d), .int .i64 (uA s.data.toList a), .int .i64 (uB s.data.toList b), .int .i64 (uI s.data.toList imm)]) ∧ Below w.heap.size w w' := by
  have kb := fun W => Lib.run_convert_string_bytes (P := Tryd.prog) W 9 89 5 s Tryd.underlying9 Tryd.underlying89 Tryd.underlying5
  go_enter Tryd.func54, Tryd.ntmps54
  go_wp2
  clear kb hg
  go_loopw [16] (fun i wr => ∃ k : Nat, k ≤ s.size ∧ i = .int .i64 k ∧ UsedRel w op d a b imm s k wr) (fun i _ => s.size - (intOf i).toNat)
  case atStart =>
    refine ⟨0, Nat.zero_le _, rfl, ?_⟩
    have b0 : Below w.heap.size w (((w.alloc (Obj.cells #[Value.int IntKind.i64 op, Value.int IntKind.i64 d, Value.int IntKind.i64 a, Value.int IntKind.i64 b, Value.int IntKind.i64 imm] 23)).alloc (Obj.cells #[Value.int IntKind.i64 0, Value.int IntKind.i64 0, Value.int IntKind.i64 0, Value.int IntKind.i64 0, Value.int IntKind.i64 0] 23)).alloc (Obj.cells #[Value.int IntKind.i64 op, Value.int IntKind.i64 0, Value.int IntKind.i64 0, Value.int IntKind.i64 0, Value.int IntKind.i64 0] 23)) :=
      (((Below.refl _ _).alloc (by simp) _).alloc (by simp) _).alloc (by simp; omega) _
    have B : ∀ W : World, Below W.heap.size W (Lib.bytesWorld W 5 s) := fun W => bytes_below (Below.refl _ _) (Nat.le_refl _) 5 s
    constructor
    · exact bytes_below b0 (by simp; omega) 5 s
    · exact (((Blk.new _ _ _).alloc _).alloc _).below (B _) (by simp; omega)
    · have h := ((Blk.new (w.alloc (Obj.cells #[Value.int IntKind.i64 op, Value.int IntKind.i64 d, Value.int IntKind.i64 a, Value.int IntKind.i64 b, Value.int IntKind.i64 imm] 23)) #[Value.int IntKind.i64 0, Value.int IntKind.i64 0, Value.int IntKind.i64 0, Value.int IntKind.i64 0, Value.int IntKind.i64 0] 23).alloc (Obj.cells #[Value.int IntKind.i64 op, Value.int IntKind.i64 0, Value.int IntKind.i64 0, Value.int IntKind.i64 0, Value.int IntKind.i64 0] 23)).below (B _) (by simp)
      simpa using h
    · have h := (Blk.new ((w.alloc (Obj.cells #[Value.int IntKind.i64 op, Value.int IntKind.i64 d, Value.int IntKind.i64 a, Value.int IntKind.i64 b, Value.int IntKind.i64 imm] 23)).alloc (Obj.cells #[Value.int IntKind.i64 0, Value.int IntKind.i64 0, Value.int IntKind.i64 0, Value.int IntKind.i64 0, Value.int IntKind.i64 0] 23)) #[Value.int IntKind.i64 op, Value.int IntKind.i64 0, Value.int IntKind.i64 0, Value.int IntKind.i64 0, Value.int IntKind.i64 0] 23).below (B _) (by simp)
      simpa [uD, uA, uB, uI] using h
    · have h := Byts.new (((w.alloc (Obj.cells #[Value.int IntKind.i64 op, Value.int IntKind.i64 d, Value.int IntKind.i64 a, Value.int IntKind.i64 b, Value.int IntKind.i64 imm] 23)).alloc (Obj.cells #[Value.int IntKind.i64 0, Value.int IntKind.i64 0, Value.int IntKind.i64 0, Value.int IntKind.i64 0, Value.int IntKind.i64 0] 23)).alloc (Obj.cells #[Value.int IntKind.i64 op, Value.int IntKind.i64 0, Value.int IntKind.i64 0, Value.int IntKind.i64 0, Value.int IntKind.i64 0] 23)) s 5
      simpa using h
  case round =>
    obtain ⟨k, hk, rfl, hr⟩ := hrel
    have p1 := hr.prm.cell 1
    have p2 := hr.prm.cell 2
    have p3 := hr.prm.cell 3
    have p4 := hr.prm.cell 4
    have f1 := hr.out.free 1
    have f2 := hr.out.free 2
    have f3 := hr.out.free 3
    have f4 := hr.out.free 4
    have o0 := hr.out.cell 0
    have o1 := hr.out.cell 1
    have o2 := hr.out.cell 2
    have o3 := hr.out.cell 3
    have o4 := hr.out.cell 4
    have r0 := hr.res.cell 0
    have r1 := hr.res.cell 1
    have r2 := hr.res.cell 2
    have r3 := hr.res.cell 3
    have r4 := hr.res.cell 4
    have q0 := hr.res.free 0
    have q1 := hr.res.free 1
    have q2 := hr.res.free 2
    have q3 := hr.res.free 3
    have q4 := hr.res.free 4
    simp at p1 p2 p3 p4 o0 o1 o2 o3 o4 r0 r1 r2 r3 r4
    by_cases hlt : k < s.size
    · have hb := hr.byts k hlt
      have hsn := take_snoc s.data.toList k (by simpa using hlt)
      generalize hcc : s.data.toList.getD k 0 = c at *
      have Hsn := Lib.hid hsn
      have Hcc := Lib.hid hcc
      clear hsn hcc
      have hn : k + 1 ≤ s.size := hlt
      go_wp2
      · exact ⟨⟨k + 1, hn, by go_num, used_d hr hlt Hcc.out (u8_is (by assumption))⟩, by simp [intOf]; omega⟩
      · exact ⟨⟨k + 1, hn, by go_num, used_a hr hlt Hcc.out (u8_is (by assumption))⟩, by simp [intOf]; omega⟩
      · exact ⟨⟨k + 1, hn, by go_num, used_b hr hlt Hcc.out (u8_is (by assumption))⟩, by simp [intOf]; omega⟩
      · go_region
        all_goals go_wp2
        exact ⟨⟨k + 1, hn, by go_num, used_c hr hlt Hcc.out (u8_is (by assumption))⟩, by simp [intOf]; omega⟩
      · exact ⟨⟨k + 1, hn, by go_num, used_i hr hlt Hcc.out (u8_isnt (by assumption)) (u8_isnt (by assumption)) (u8_isnt (by assumption)) (u8_isnt (by assumption))⟩, by simp [intOf]; omega⟩
    · have hke : k = s.size := by omega
      go_wp2
      refine bodyPost_agg (b := w.heap.size + 1) Tryd.results54 rfl (((((hr.res.set 0 _).set 1 _).set 2 _).set 3 _).set 4 _) (fun _ => by kernel_rfl) (fun _ => by kernel_rfl) rfl ⟨?_, ?_⟩
      · subst hke
        have hT : s.data.toList.take s.size = s.data.toList := List.take_of_length_le (by simp)
        simp [hT]
      · exact (((((hr.below.setCell (by simp) _).setCell (by simp) _).setCell (by simp) _).setCell (by simp) _).setCell (by simp) _)
end Go.Proofs.YtpbffmkdchiajaaDoor

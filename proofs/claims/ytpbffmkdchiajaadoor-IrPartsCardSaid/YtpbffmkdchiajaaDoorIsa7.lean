/-
  The walks of package isa, seventh part: Text.
-/
import Derived.Test.YtpbffmkdchiajaaDoorIsa6
import Derived.Lib.ItoaLen
namespace Go.Proofs.YtpbffmkdchiajaaDoor
open Go.RowKit Go.Lib
def rB (n : Int) : ByteArray := ⟨#[114]⟩ ++ itoaB n
def partB (d a b imm : Int) (c : UInt8) : ByteArray := if c = 100 then rB d else if c = 97 then rB a else if c = 98 then rB b else itoaB imm
def partsL (d a b imm : Int) (l : List UInt8) : List ByteArray := l.map (partB d a b imm)
theorem partsL_snoc (d a b imm : Int) (l : List UInt8) (c : UInt8) : partsL d a b imm (l ++ [c]) = partsL d a b imm l ++ [partB d a b imm c] := by simp [partsL]
structure TextRel (W1 : World) (d a b imm : Int) (s : ByteArray) (k : Nat) (v : Value) (wr : World) : Prop where
  below : Below W1.heap.size W1 wr
  own : wr.ownsRow W1.heap.size 9 1 v ((partsL d a b imm (s.data.toList.take k)).map Value.string).length ((partsL d a b imm (s.data.toList.take k)).map Value.string)
def I64 (n : Int) : Prop := -9223372036854775808 ≤ n ∧ n ≤ 9223372036854775807
theorem itoaB_size (n : Int) (h : I64 n) : (itoaB n).size ≤ 21 := by
  have := Lib.itoa_length_le n h.1 h.2
  simpa [itoaB, ByteArray.size] using this
theorem condB_size (d a : Int) : (condB d a).size ≤ 3 := by
  unfold condB
  repeat' split
  all_goals decide
theorem own_below {w w1 : World} {base n : Nat} {e : TypeId} {size : Nat} {v : Value} {xs : List Value} (h : w.ownsRow base e size v n xs) (hb : Below w.heap.size w w1) : w1.ownsRow base e size v n xs :=
  h.kept (row := none) ⟨hb.os, hb.tape, hb.output, hb.size, fun i hi _ => hb.block i hi⟩ (by cases v.ownBlock <;> simp)
theorem digits_ascii (u : Nat) : ∀ x ∈ Lib.decDigits u, x.toNat < 128 := by
  induction u using Nat.strongRecOn with
  | _ u ih =>
    intro x hx
    rw [Lib.decDigits] at hx
    split at hx
    · simp at hx; subst hx
      have : 48 + u < 256 := by omega
      simp [UInt8.toNat_ofNat']; omega
    · simp at hx
      rcases hx with hx | hx
      · exact ih (u / 10) (by omega) x hx
      · subst hx
        simp [UInt8.toNat_ofNat']; omega
theorem itoa_ascii (n : Int) : ∀ x ∈ Lib.itoa n, x.toNat < 128 := by
  intro x hx
  unfold Lib.itoa at hx
  split at hx
  · simp at hx
    rcases hx with rfl | hx
    · decide
    · exact digits_ascii _ x hx
  · exact digits_ascii _ x hx
theorem part_ok (d a b imm : Int) (c : UInt8) (hD : I64 d) (hA : I64 a) (hB : I64 b) (hI : I64 imm) : (partB d a b imm c).data.toList.length ≤ 22 ∧ ∀ x ∈ (partB d a b imm c).data.toList, x.toNat < 128 := by
  have key : ∀ n, I64 n → (rB n).data.toList.length ≤ 22 ∧ ∀ x ∈ (rB n).data.toList, x.toNat < 128 := by
    intro n hn
    have hl := Lib.itoa_length_le n hn.1 hn.2
    have e : (rB n).data.toList = 114 :: Lib.itoa n := by simp [rB, itoaB]
    rw [e]
    refine ⟨by simp; omega, fun x hx => ?_⟩
    rcases List.mem_cons.1 hx with rfl | hx
    · decide
    · exact itoa_ascii n x hx
  unfold partB
  split
  · exact key d hD
  split
  · exact key a hA
  split
  · exact key b hB
  · have hl := Lib.itoa_length_le imm hI.1 hI.2
    exact ⟨by simp [itoaB]; omega, by simpa [itoaB] using itoa_ascii imm⟩
theorem join_ok (sep : List UInt8) (hs : sep.length ≤ 2) (ha : ∀ x ∈ sep, x.toNat < 128) : ∀ xs : List (List UInt8), (∀ y ∈ xs, y.length ≤ 22 ∧ ∀ x ∈ y, x.toNat < 128) → (Lib.join xs sep).length ≤ 24 * xs.length ∧ ∀ x ∈ Lib.join xs sep, x.toNat < 128
  | [], _ => by simp [Lib.join_nil]
  | y :: r, h => by
    rw [Lib.join_cons]
    have hy := h y (List.mem_cons_self ..)
    have ht : ∀ r : List (List UInt8), (∀ y ∈ r, y.length ≤ 22 ∧ ∀ x ∈ y, x.toNat < 128) → (Lib.joinTail sep r).length ≤ 24 * r.length ∧ ∀ x ∈ Lib.joinTail sep r, x.toNat < 128 := by
      intro r
      induction r with
      | nil => intro _; simp [Lib.joinTail]
      | cons z r ih =>
        intro h
        have hz := h z (List.mem_cons_self ..)
        have hr := ih (fun y hy => h y (List.mem_cons_of_mem _ hy))
        have e : Lib.joinTail sep (z :: r) = (sep ++ z) ++ Lib.joinTail sep r := by simp [Lib.joinTail]
        rw [e]
        refine ⟨by simp only [List.length_append, List.length_cons]; omega, fun x hx => ?_⟩
        simp only [List.mem_append] at hx
        rcases hx with (hx | hx) | hx
        · exact ha x hx
        · exact hz.2 x hx
        · exact hr.2 x hx
    have hr := ht r (fun z hz => h z (List.mem_cons_of_mem _ hz))
    refine ⟨by simp only [List.length_append, List.length_cons]; omega, fun x hx => ?_⟩
    simp only [List.mem_append] at hx
    rcases hx with hx | hx
    · exact hy.2 x hx
    · exact hr.2 x hx
theorem info9 : (Tryd.prog.info? 9).map (fun i => (i.zero, i.size, i.bytes)) = some (some (.string ⟨#[]⟩), 1, 16) := by kernel_rfl
set_option maxHeartbeats 2000000 in
theorem text_bad {nm fl : Nat → ByteArray} {wt : Nat → Int} (F : FlOk fl) (op d a b imm : Int) (w : World) (H : Shp nm fl wt w) (hg : goodI fl op d a b imm = false) :
    Calls Tryd.prog 13 #[.agg #[.int .i64 op, .int .i64 d, .int .i64 a, .int .i64 b, .int .i64 imm]] w fun e w' => e = .returned (.string ⟨#[]⟩) ∧ Below w.heap.size w w' := by
  have b0 : Below w.heap.size w (w.alloc (.cells #[.int .i64 op, .int .i64 d, .int .i64 a, .int .i64 b, .int .i64 imm] 23)) := (Below.refl _ w).alloc (Nat.le_refl _) _
  have HS := Lib.hid (H.below b0 H.pos)
  go_enter Tryd.func13, Tryd.ntmps13
  go_wp2_with (go_at_call 12; refine (good_inst F op d a b imm _ HS.out).mono ?_; rintro e w' ⟨rfl, hb⟩)
  go_ret
  exact ⟨rfl, below_then b0 (by simp) hb⟩
set_option maxHeartbeats 2000000 in
theorem text_bc {nm fl : Nat → ByteArray} {wt : Nat → Int} (F : FlOk fl) (d a b imm : Int) (w : World) (H : Shp nm fl wt w) (T : Tabs w) (hi : Hid (I64 imm)) (hg : goodI fl 10 d a b imm = true) (a0 : 0 ≤ a) (a1 : a ≤ 2) :
    Calls Tryd.prog 13 #[.agg #[.int .i64 10, .int .i64 d, .int .i64 a, .int .i64 b, .int .i64 imm]] w fun e w' => e = .returned (.string (condB d a ++ ⟨#[32]⟩ ++ itoaB imm)) ∧ Below w.heap.size w w' := by
  have b0 : Below w.heap.size w (w.alloc (.cells #[.int .i64 10, .int .i64 d, .int .i64 a, .int .i64 b, .int .i64 imm] 23)) := (Below.refl _ w).alloc (Nat.le_refl _) _
  have HB := Lib.hid (Blk.new w #[.int .i64 10, .int .i64 d, .int .i64 a, .int .i64 b, .int .i64 imm] 23)
  have HS := Lib.hid (H.below b0 H.pos)
  have hw := H.pos
  have HG := Lib.hid (H.name 10 (by omega) (by omega))
  have HF := Lib.hid (H.flds 10 (by omega) (by omega))
  have HW := Lib.hid (H.word 10 (by omega) (by omega))
  go_enter Tryd.func13, Tryd.ntmps13
  go_wp2_with (go_at_call 12; refine (good_inst F 10 d a b imm _ HS.out).mono ?_; rintro e w' ⟨rfl, hb⟩; have hB := Lib.hid (below_then b0 (by simp) hb); have hz := hb.size; simp at hz; have hlt : w.heap.size < w'.heap.size := hz; have hP := Lib.hid (HB.out.below hb (by simp)); have p0 := hP.out.cell 0; have p1 := hP.out.cell 1; have p2 := hP.out.cell 2; have p3 := hP.out.cell 3; have p4 := hP.out.cell 4; simp at p0 p1 p2 p3 p4; have hgn := (hB.out.cell (p := ⟨0, 10 * 3, none⟩) hw).trans HG.out; have hgf := (hB.out.cell (p := ⟨0, 10 * 3 + 1, none⟩) hw).trans HF.out; have hgw := (hB.out.cell (p := ⟨0, 10 * 3 + 2, none⟩) hw).trans HW.out; simp at hgn hgf hgw; have HT := Lib.hid (T.below hB.out T.nb); clear hb)
  clear hgn hgf hgw p0 p1 p2 p3 p4
  have P1 := hP.out.alloc (.cells #[.string (nm 10), .string (fl 10), .int .u32 (wt 10)] 87)
  have l0 := fun g => gw_cell (v := .int .i64 10) (P1.cell 0) g
  have l1 := fun g => gw_cell (v := .int .i64 d) (P1.cell 1) g
  have l2 := fun g => gw_cell (v := .int .i64 a) (P1.cell 2) g
  have l3 := fun g => gw_cell (v := .int .i64 b) (P1.cell 3) g
  have l4 := fun g => gw_cell (v := .int .i64 imm) (P1.cell 4) g
  have bz : Below w.heap.size w (w'.alloc (.cells #[.string (nm 10), .string (fl 10), .int .u32 (wt 10)] 87)) := hB.out.alloc (by omega) _
  have lt : Hid (∀ g : GW (w'.alloc (.cells #[.string (nm 10), .string (fl 10), .int .u32 (wt 10)] 87)), Tabs g.W) := fun g => (HT.out.below ((Below.refl _ _).alloc (Nat.le_refl _) _) HT.out.nb).below g.h (by have := HT.out.nb; simp; omega)
  have z1 := condB_size d a
  have z2 := itoaB_size imm hi.out
  refine wp_region_gw_lit (by kernel_rfl) (by kernel_rfl) ?_
  repeat (first | go_big_quiet_step ((first | (go_at_call 55; exact gw_call (cond_any _ _ _ _ _ _ a0 a1)) | (go_at_call 56; exact gw_call (itoa_any _ hi.out.1 hi.out.2 _ (lt.out _))))) | quiet_step (fail))
  refine wpQuiet_nil ?_
  rintro _ ⟨g, rfl⟩
  have hbel : Below w.heap.size w g.W := below_then bz (by simp; omega) g.h
  go_wp2
  go_ret
  exact ⟨rfl, hbel⟩
set_option maxRecDepth 100000 in
set_option maxHeartbeats 4000000 in
theorem text_loop (op d a b imm : Int) (ns s : ByteArray) (wd : Int) (w : World) {nm fl : Nat → ByteArray} {wt : Nat → Int} (F : FlOk fl) (H : Shp nm fl wt w) (T : Tabs w) (hns : ns = nm op.toNat) (hse : s = fl op.toNat) (hwd : wd = wt op.toNat)
    (hnz : ns.size ≤ 100) (hna : Hid (∀ x ∈ ns.data.toList, x.toNat < 128)) (hD : Hid (I64 d)) (hA : Hid (I64 a)) (hBb : Hid (I64 b)) (hI : Hid (I64 imm)) (hg : goodI fl op d a b imm = true) (ho : 1 ≤ op) (ho' : op ≤ 22) (h10 : (op == 10) = false) :
    Calls Tryd.prog 13 #[.agg #[.int .i64 op, .int .i64 d, .int .i64 a, .int .i64 b, .int .i64 imm]] w fun e w' => e = .returned (.string ⟨(Lib.trimSpace ((ns ++ ⟨#[32]⟩) ++ ⟨(Lib.join ((partsL d a b imm s.data.toList).map (·.data.toList)) [44, 32]).toArray⟩).data.toList).toArray⟩) ∧ Below w.heap.size w w' := by
  have b0 : Below w.heap.size w (w.alloc (.cells #[.int .i64 op, .int .i64 d, .int .i64 a, .int .i64 b, .int .i64 imm] 23)) := (Below.refl _ w).alloc (Nat.le_refl _) _
  have HB := Lib.hid (Blk.new w #[.int .i64 op, .int .i64 d, .int .i64 a, .int .i64 b, .int .i64 imm] 23)
  have HS := Lib.hid (H.below b0 H.pos)
  have hw := H.pos
  have hs := F.size op.toNat (by omega) (by omega)
  have HG := Lib.hid (H.name op.toNat (by omega) (by omega))
  have HF := Lib.hid (H.flds op.toNat (by omega) (by omega))
  have HW := Lib.hid (H.word op.toNat (by omega) (by omega))
  rw [← hse] at hs HF
  rw [← hns] at HG
  rw [← hwd] at HW
  clear hse hns hwd
  have kb := fun W => Lib.run_convert_string_bytes (P := Tryd.prog) W 9 89 5 s Tryd.underlying9 Tryd.underlying89 Tryd.underlying5
  go_enter Tryd.func13, Tryd.ntmps13
  go_wp2_with (go_at_call 12; refine (good_inst F op d a b imm _ HS.out).mono ?_; rintro e w' ⟨rfl, hb⟩; have hB := Lib.hid (below_then b0 (by simp) hb); have hz := hb.size; simp at hz; have hlt : w.heap.size < w'.heap.size := hz; have hP := Lib.hid (HB.out.below hb (by simp)); have p0 := hP.out.cell 0; have p1 := hP.out.cell 1; have p2 := hP.out.cell 2; have p3 := hP.out.cell 3; have p4 := hP.out.cell 4; simp at p0 p1 p2 p3 p4; have hgn := (hB.out.cell (p := ⟨0, op.toNat * 3, none⟩) hw).trans HG.out; have hgf := (hB.out.cell (p := ⟨0, op.toNat * 3 + 1, none⟩) hw).trans HF.out; have hgw := (hB.out.cell (p := ⟨0, op.toNat * 3 + 2, none⟩) hw).trans HW.out; have HT := Lib.hid (T.below hB.out T.nb); clear hb)
  clear hgn hgf hgw p0 p1 p2 p3 p4 kb
  have bc : Below w'.heap.size w' (w'.alloc (.cells #[.string ns, .string s, .int .u32 wd] 87)) := (Below.refl _ _).alloc (Nat.le_refl _) _
  have bb : Below (w'.alloc (.cells #[.string ns, .string s, .int .u32 wd] 87)).heap.size (w'.alloc (.cells #[.string ns, .string s, .int .u32 wd] 87)) (Lib.bytesWorld (w'.alloc (.cells #[.string ns, .string s, .int .u32 wd] 87)) 5 s) := bytes_below (Below.refl _ _) (Nat.le_refl _) 5 s
  have c1 : Blk (Lib.bytesWorld (w'.alloc (.cells #[.string ns, .string s, .int .u32 wd] 87)) 5 s) w'.heap.size #[.string ns, .string s, .int .u32 wd] 87 := (Blk.new _ _ _).below bb (by simp)
  have c2 : Blk (Lib.bytesWorld (w'.alloc (.cells #[.string ns, .string s, .int .u32 wd] 87)) 5 s) w.heap.size #[.int .i64 op, .int .i64 d, .int .i64 a, .int .i64 b, .int .i64 imm] 23 := (hP.out.alloc _).below bb (by simp; omega)
  have c3 : Byts (Lib.bytesWorld (w'.alloc (.cells #[.string ns, .string s, .int .u32 wd] 87)) 5 s) (w'.heap.size + 1) s := by have h := Byts.new (w'.alloc (.cells #[.string ns, .string s, .int .u32 wd] 87)) s 5; simpa using h
  have c4 : Tabs (Lib.bytesWorld (w'.alloc (.cells #[.string ns, .string s, .int .u32 wd] 87)) 5 s) := (HT.out.below bc HT.out.nb).below bb (by have := HT.out.nb; simp; omega)
  have c5 : Below w.heap.size w (Lib.bytesWorld (w'.alloc (.cells #[.string ns, .string s, .int .u32 wd] 87)) 5 s) := below_then hB.out (by omega) (bc.trans (bb.mono (by simp)))
  have c6 : w'.heap.size + 1 < (Lib.bytesWorld (w'.alloc (.cells #[.string ns, .string s, .int .u32 wd] 87)) 5 s).heap.size := by rw [Lib.bytesWorld_size]; simp
  generalize hW1 : Lib.bytesWorld (w'.alloc (.cells #[.string ns, .string s, .int .u32 wd] 87)) 5 s = W1 at *
  clear hW1 bc bb
  have C1 := Lib.hid c1
  have C2 := Lib.hid c2
  have C3 := Lib.hid c3
  have C4 := Lib.hid c4
  have C5 := Lib.hid c5
  clear c1 c2 c3 c4 c5
  go_loopw [4, 28] (fun v i wr => ∃ k : Nat, k ≤ s.size ∧ i = .int .i64 k ∧ TextRel W1 d a b imm s k v wr) (fun _ i _ => s.size - (RowKit.intOf i).toNat)
  case atStart => exact ⟨0, Nat.zero_le _, rfl, Below.refl _ _, by simp [partsL], .inl ⟨rfl, by simp [partsL]⟩⟩
  case round =>
    obtain ⟨k, hk, rfl, hr⟩ := hrel
    obtain ⟨hbel0, hown0⟩ := hr
    have hbel := Lib.hid hbel0
    have hown := Lib.hid hown0
    have hz1 := hbel0.size
    have HTr := Lib.hid (C4.out.below hbel0 (by have := C4.out.nb; omega))
    have P := C2.out.below hbel0 (by omega)
    have q1 := P.cell 1
    have q2 := P.cell 2
    have q3 := P.cell 3
    have q4 := P.cell 4
    simp at q1 q2 q3 q4
    clear hbel0 hown0 P
    have hT0 := hbel.out
    have z1 := itoaB_size d hD.out
    have z2 := itoaB_size a hA.out
    have z3 := itoaB_size b hBb.out
    have z4 := itoaB_size imm hI.out
    by_cases hlk : k < s.size
    · have hb0 := C3.out k hlk
      have hb1 := (hbel.out.cell (p := ⟨w'.heap.size + 1, k, none⟩) c6).trans hb0
      have hsn := Lib.hid (take_snoc s.data.toList k (by simpa using hlk))
      have hn : k + 1 ≤ s.size := hlk
      generalize hcc : s.data.toList.getD k 0 = c at *
      have Hcc := Lib.hid hcc
      clear hcc hb0
      by_cases hc : c.toNat = 100
      · have e100 : (((c.toNat : Nat) : Int) == 100) = true := by rw [hc]; rfl
        go_wp2_with (first | (go_at_call 56; refine (itoa_any _ hD.out.1 hD.out.2 _ HTr.out).mono ?_; rintro e w2 ⟨rfl, hb2⟩; have ho2 := Lib.hid (own_below hown.out hb2); have hB2 := Lib.hid (below_next hbel.out hb2)) | (at_builtin; refine app_one (w0 := W1) W1.heap.size rfl (.tmp 41) (.tmp 46) 97 9 (.string ⟨#[]⟩) 16 rfl Tryd.underlying97 info9 rfl (by decide) _ _ (.string (rB d)) rfl rfl rfl ho2.out hB2.out ?_ ?_ ?_; (exact hB2.out.size); (simp only [List.length_map, partsL, List.length_take]; omega); intro v1 w1 hown1 hbel1))
        refine ⟨⟨k + 1, hn, by go_num, ⟨hbel1, ?_⟩⟩, by simp [RowKit.intOf]; omega⟩
        rw [hsn.out, partsL_snoc, List.map_append]
        have hpc : partB d a b imm c = rB d := by unfold partB; rw [if_pos (UInt8.toNat_inj.1 hc)]
        simpa [hpc] using hown1
      by_cases hc2 : c.toNat = 97
      · have e100 : (((c.toNat : Nat) : Int) == 100) = false := by simp; omega
        have e97 : (((c.toNat : Nat) : Int) == 97) = true := by rw [hc2]; rfl
        go_wp2_with (first | (go_at_call 56; refine (itoa_any _ hA.out.1 hA.out.2 _ HTr.out).mono ?_; rintro e w2 ⟨rfl, hb2⟩; have ho2 := Lib.hid (own_below hown.out hb2); have hB2 := Lib.hid (below_next hbel.out hb2)) | (at_builtin; refine app_one (w0 := W1) W1.heap.size rfl (.tmp 50) (.tmp 55) 97 9 (.string ⟨#[]⟩) 16 rfl Tryd.underlying97 info9 rfl (by decide) _ _ (.string (rB a)) rfl rfl rfl ho2.out hB2.out ?_ ?_ ?_; (exact hB2.out.size); (simp only [List.length_map, partsL, List.length_take]; omega); intro v1 w1 hown1 hbel1))
        refine ⟨⟨k + 1, hn, by go_num, ⟨hbel1, ?_⟩⟩, by simp [RowKit.intOf]; omega⟩
        rw [hsn.out, partsL_snoc, List.map_append]
        have hpc : partB d a b imm c = rB a := by unfold partB; rw [if_neg (fun e => hc (by rw [e]; rfl)), if_pos (UInt8.toNat_inj.1 hc2)]
        simpa [hpc] using hown1
      by_cases hc3 : c.toNat = 98
      · have e100 : (((c.toNat : Nat) : Int) == 100) = false := by simp; omega
        have e97 : (((c.toNat : Nat) : Int) == 97) = false := by simp; omega
        have e98 : (((c.toNat : Nat) : Int) == 98) = true := by rw [hc3]; rfl
        go_wp2_with (first | (go_at_call 56; refine (itoa_any _ hBb.out.1 hBb.out.2 _ HTr.out).mono ?_; rintro e w2 ⟨rfl, hb2⟩; have ho2 := Lib.hid (own_below hown.out hb2); have hB2 := Lib.hid (below_next hbel.out hb2)) | (at_builtin; refine app_one (w0 := W1) W1.heap.size rfl (.tmp 59) (.tmp 64) 97 9 (.string ⟨#[]⟩) 16 rfl Tryd.underlying97 info9 rfl (by decide) _ _ (.string (rB b)) rfl rfl rfl ho2.out hB2.out ?_ ?_ ?_; (exact hB2.out.size); (simp only [List.length_map, partsL, List.length_take]; omega); intro v1 w1 hown1 hbel1))
        refine ⟨⟨k + 1, hn, by go_num, ⟨hbel1, ?_⟩⟩, by simp [RowKit.intOf]; omega⟩
        rw [hsn.out, partsL_snoc, List.map_append]
        have hpc : partB d a b imm c = rB b := by unfold partB; rw [if_neg (fun e => hc (by rw [e]; rfl)), if_neg (fun e => hc2 (by rw [e]; rfl)), if_pos (UInt8.toNat_inj.1 hc3)]
        simpa [hpc] using hown1
      · have e100 : (((c.toNat : Nat) : Int) == 100) = false := by simp; omega
        have e97 : (((c.toNat : Nat) : Int) == 97) = false := by simp; omega
        have e98 : (((c.toNat : Nat) : Int) == 98) = false := by simp; omega
        go_wp2_with (first | (go_at_call 56; refine (itoa_any _ hI.out.1 hI.out.2 _ HTr.out).mono ?_; rintro e w2 ⟨rfl, hb2⟩; have ho2 := Lib.hid (own_below hown.out hb2); have hB2 := Lib.hid (below_next hbel.out hb2)) | (at_builtin; refine app_one (w0 := W1) W1.heap.size rfl (.tmp 33) (.tmp 37) 97 9 (.string ⟨#[]⟩) 16 rfl Tryd.underlying97 info9 rfl (by decide) _ _ (.string (itoaB imm)) rfl rfl rfl ho2.out hB2.out ?_ ?_ ?_; (exact hB2.out.size); (simp only [List.length_map, partsL, List.length_take]; omega); intro v1 w1 hown1 hbel1))
        refine ⟨⟨k + 1, hn, by go_num, ⟨hbel1, ?_⟩⟩, by simp [RowKit.intOf]; omega⟩
        rw [hsn.out, partsL_snoc, List.map_append]
        have hpc : partB d a b imm c = itoaB imm := by unfold partB; rw [if_neg (fun e => hc (by rw [e]; rfl)), if_neg (fun e => hc2 (by rw [e]; rfl)), if_neg (fun e => hc3 (by rw [e]; rfl))]
        simpa [hpc] using hown1
    · have hke : k = s.size := by omega
      have hT : s.data.toList.take k = s.data.toList := List.take_of_length_le (by simp; omega)
      have hown2 := hown.out
      rw [hT] at hown2
      have hps : Hid ((partsL d a b imm s.data.toList).length ≤ 100) := by show _ ≤ _; simp [partsL]; omega
      have hpo := join_ok [44, 32] (by simp) (by simp) ((partsL d a b imm s.data.toList).map (·.data.toList)) (by
        intro y hy
        simp only [partsL, List.map_map, List.mem_map] at hy
        obtain ⟨c, _, rfl⟩ := hy
        exact part_ok d a b imm c hD.out hA.out hBb.out hI.out)
      obtain ⟨J, hJ⟩ : ∃ J : ByteArray, J = ⟨(Lib.join ((partsL d a b imm s.data.toList).map (·.data.toList)) [44, 32]).toArray⟩ := ⟨_, rfl⟩
      have zJ : J.size ≤ 2400 := by
        have h := hpo.1
        have h2 := hps.out
        rw [List.length_map] at h
        rw [hJ]
        simp [ByteArray.size]
        omega
      have aJ := Lib.hid hpo.2
      have hjoin : Hid (∀ g : GW wr, Calls Tryd.prog 58 #[u4, .string ⟨#[44, 32]⟩] g.W fun e w' => e = .returned (.string J) ∧ Below g.W.heap.size g.W w') := by
        intro g
        rcases hown2.2 with ⟨hv, hn0⟩ | ⟨gb, cap, cur, hv, hgb, hcur, h1, h2, h3, h4⟩
        · have he : partsL d a b imm s.data.toList = [] := by simpa using hn0
          have hJ0 : J = ⟨#[]⟩ := by rw [hJ, he]; rfl
          rw [hv, hJ0]
          exact (Tryd.strings_Join_none none 0 ⟨#[44, 32]⟩ g.W).mono fun _ _ ⟨he, hw⟩ => ⟨he, by rw [hw]; exact Below.refl _ _⟩
        · have hlt : gb < wr.heap.size := (Array.getElem?_eq_some_iff.1 hcur).1
          have hc : ∀ (j : Nat) x, (partsL d a b imm s.data.toList)[j]? = some x → g.W.cell? ⟨gb, 0 + j, none⟩ = some (.string x) := by
            intro j x hj
            have h := hown2.cells (g := gb) (by rw [hv]; rfl) j (.string x) (by simp [hj])
            have e : (⟨gb, 0, none⟩ : Addr).add j = ⟨gb, 0 + j, none⟩ := by unfold Addr.add; split <;> simp_all
            rw [e] at h
            exact gw_cell h g
          have hk := Tryd.strings_Join gb 0 cap (partsL d a b imm s.data.toList) ⟨#[44, 32]⟩ g.W hc (Nat.lt_of_lt_of_le hlt g.h.size) (by have := hps.out; omega) (by simpa using h1) (by have h := hpo.1; have := hps.out; rw [List.length_map] at h; show (Lib.join _ [44, 32]).length ≤ _; omega)
          rw [hv, List.length_map, hJ]
          exact hk
      have PP := C1.out.below hT0 (by omega)
      have l0 := fun g => gw_cell (v := .string ns) (PP.cell 0) g
      have htr : Hid (∀ g : GW wr, Calls Tryd.prog 57 #[.string ((ns ++ ⟨#[32]⟩) ++ J)] g.W fun e w' => e = .returned (.string ⟨(Lib.trimSpace ((ns ++ ⟨#[32]⟩) ++ J).data.toList).toArray⟩) ∧ Below g.W.heap.size g.W w') := by
        intro g
        refine trim_any _ g.W (by have h1 : (⟨#[32]⟩ : ByteArray).size = 1 := rfl; simp; omega) ?_ (HTr.out.below g.h HTr.out.nb)
        intro j x hj
        have hm := List.mem_of_getElem? hj
        simp only [ByteArray.data_append, Array.toList_append, List.mem_append] at hm
        rcases hm with (hm | hm) | hm
        · exact hna.out x hm
        · simp at hm; subst hm; decide
        · rw [hJ] at hm; exact aJ.out x (by simpa using hm)
      have HJ := Lib.hid hJ
      have Hke := Lib.hid hke
      clear hJ hke hT hown2 hpo q1 q2 q3 q4 PP
      go_wp2
      refine wp_region_gw_lit (by kernel_rfl) (by kernel_rfl) ?_
      repeat (go_big_quiet_step ((first | (go_at_call 58; exact gw_call (hjoin.out _)) | (go_at_call 57; exact gw_call (htr.out _)))))
      refine wpQuiet_nil ?_
      rintro _ ⟨g, rfl⟩
      have hfin : Below w.heap.size w g.W := below_then (below_then C5.out (by omega) hbel.out) (by omega) g.h
      clear l0
      go_wp2
      go_ret
      refine ⟨ret_val ?_, hfin⟩
      rw [HJ.out]
      rfl
end Go.Proofs.YtpbffmkdchiajaaDoor

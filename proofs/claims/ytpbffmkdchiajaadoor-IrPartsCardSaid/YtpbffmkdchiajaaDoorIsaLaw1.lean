/-
  The laws of layer 2, first part: what each function that they call answers, over the program's own table; alive.
-/
import Derived.Test.YtpbffmkdchiajaaDoorPure4
namespace Go.Proofs.YtpbffmkdchiajaaDoor
open Go.RowKit
structure LawW (w : World) : Prop where
  shp : Shp nmT flT wtT w
  tabs : Tabs w
theorem LawW.below {w w' : World} {B : Nat} (h : LawW w) (hb : Below B w w') (hB : 12 ≤ B) : LawW w' := ⟨h.shp.below hb (by omega), h.tabs.below hb hB⟩
theorem LawW.next {w w' : World} (h : LawW w) (hb : Below w.heap.size w w') : LawW w' := h.below hb h.tabs.nb
theorem LawW.alloc {w : World} (h : LawW w) (o : Obj) : LawW (w.alloc o) := h.next ((Below.refl _ _).alloc (Nat.le_refl _) _)
def txtR (op d a b imm : Int) : ByteArray := if goodR op d a b imm then (if op = 10 then condB d a ++ ⟨#[32]⟩ ++ itoaB imm else textF (ofF op).nm (accI (ofF op) d a b imm)) else ⟨#[]⟩
theorem i64_small {n : Int} (h : -33554432 ≤ n ∧ n ≤ 33554432) : I64 n := ⟨by omega, by omega⟩
theorem good_all (op d a b imm : Int) (w : World) (H : LawW w) :
    Calls Tryd.prog 12 #[.agg #[.int .i64 op, .int .i64 d, .int .i64 a, .int .i64 b, .int .i64 imm]] w fun e w' => e = .returned (.bool (goodR op d a b imm)) ∧ Below w.heap.size w w' := by
  have h := good_inst flOk op d a b imm w H.shp
  rw [goodI_eq] at h
  exact h
theorem enc_all (op d a b imm : Int) (w : World) (H : LawW w) :
    Calls Tryd.prog 11 #[.agg #[.int .i64 op, .int .i64 d, .int .i64 a, .int .i64 b, .int .i64 imm]] w fun e w' => e = .returned (.tuple #[.int .u32 (if goodR op d a b imm then encR op d a b imm else 0), .int .i64 (if goodR op d a b imm then 0 else 1)]) ∧ Below w.heap.size w w' := by
  have h := enc_any flOk op d a b imm w H.shp
  rw [goodI_eq] at h
  cases hg : goodR op d a b imm
  · rw [hg] at h; exact h
  · rw [hg, enc_eq op d a b imm hg] at h; exact h
theorem cond_bounds {d a b imm : Int} (h : goodR 10 d a b imm = true) : 0 ≤ a ∧ a ≤ 2 ∧ (d = 4 ∨ d = 12) := by
  have := bnd_10 d a b imm h
  exact ⟨by omega, by omega, this.2.2.2.2.1⟩
theorem ba_ext {x y : ByteArray} (h : x.data.toList = y.data.toList) : x = y := by
  cases x; cases y; simp at h; rw [h]
theorem text_all (op d a b imm : Int) (w : World) (H : LawW w) :
    Calls Tryd.prog 13 #[.agg #[.int .i64 op, .int .i64 d, .int .i64 a, .int .i64 b, .int .i64 imm]] w fun e w' => e = .returned (.string (txtR op d a b imm)) ∧ Below w.heap.size w w' := by
  unfold txtR
  cases hg : goodR op d a b imm
  · exact text_bad flOk op d a b imm w H.shp (by rw [goodI_eq, hg])
  · have hb := good_bounds op d a b imm hg
    have hr := goodR_range hg
    have hgi : goodI flT op d a b imm = true := by rw [goodI_eq, hg]
    rw [if_pos rfl]
    by_cases h10 : op = 10
    · subst h10
      have hc := cond_bounds hg
      rw [if_pos rfl]
      exact text_bc flOk d a b imm w H.shp H.tabs (i64_small hb.2.2.2) hgi hc.1 hc.2.1
    · rw [if_neg h10]
      have hn := nm_ok op hr.1 hr.2
      have h := text_loop op d a b imm (nmT op.toNat) (flT op.toNat) (wtT op.toNat) w flOk H.shp H.tabs rfl rfl rfl hn.1 hn.2.1 (i64_small (by omega)) (i64_small (by omega)) (i64_small (by omega)) (i64_small hb.2.2.2) hgi hr.1 hr.2 (by simpa using h10)
      have e : (⟨(Lib.trimSpace ((nmT op.toNat ++ ⟨#[32]⟩) ++ ⟨(Lib.join ((partsL d a b imm (flT op.toNat).data.toList).map (·.data.toList)) [44, 32]).toArray⟩).data.toList).toArray⟩ : ByteArray) = textF (ofF op).nm (accI (ofF op) d a b imm) := by
        apply ba_ext
        rw [← text_eq op d a b imm hg h10]
        rfl
      rw [e] at h
      exact h
theorem textR_all (op d a b imm : Int) (w : World) (H : LawW w) :
    Calls Tryd.prog 14 #[.agg #[.int .i64 op, .int .i64 d, .int .i64 a, .int .i64 b, .int .i64 imm]] w fun e w' => e = .returned (.string (txtR op d a b imm)) ∧ Below w.heap.size w w' := by
  unfold txtR
  cases hg : goodR op d a b imm
  · exact textR_bad op d a b imm w hg
  · have hb := good_bounds op d a b imm hg
    have hr := goodR_range hg
    rw [if_pos rfl]
    by_cases h10 : op = 10
    · subst h10
      have hc := cond_bounds hg
      rw [if_pos rfl]
      exact textR_bc d a b imm w H.tabs (i64_small hb.2.2.2) hg hc.1 hc.2.1 hc.2.2
    · rw [if_neg h10]
      have hn := nm_ok op hr.1 hr.2
      exact textR_main op d a b imm w H.tabs (i64_small (by omega)) (i64_small (by omega)) (i64_small (by omega)) (i64_small hb.2.2.2) hn.2.2 hg (by simpa using h10)
theorem wd_ok (op : Int) (h1 : 1 ≤ op) (h2 : op ≤ 22) : 0 ≤ (ofF op).wd ∧ (ofF op).wd ≤ 4294967295 := by
  rcases of_cases h1 h2 with e | e | e | e | e | e | e | e | e | e | e | e | e | e | e | e | e | e | e | e | e | e <;> subst e <;> decide
theorem encR_all (op d a b imm : Int) (w : World) (hg : goodR op d a b imm = true) :
    Calls Tryd.prog 15 #[.agg #[.int .i64 op, .int .i64 d, .int .i64 a, .int .i64 b, .int .i64 imm]] w fun e w' => e = .returned (.int .u32 (encR op d a b imm)) ∧ Below w.heap.size w w' := by
  have hb := good_bounds op d a b imm hg
  have hr := goodR_range hg
  have hw := wd_ok op hr.1 hr.2
  exact encR_any op d a b imm w (by omega) (by omega) (by omega) (by omega) (by omega) (by omega) (by omega) (by omega) hw.1 hw.2
theorem dec_all (x : Int) (h0 : 0 ≤ x) (h1 : x < 4294967296) (w : World) (H : LawW w) :
    Calls Tryd.prog 16 #[.int .u32 x] w fun e w' => e = .returned (.tuple #[.agg (decCells flT wtT x), .int .i64 (decErr flT wtT x)]) ∧ Below w.heap.size w w' := dec_any flOk x h0 h1 w H.shp
theorem dec_zero : decF flT wtT 0 = none := by decide +kernel
set_option maxHeartbeats 1000000 in
theorem alive_any (w : World) (H : LawW w) :
    Calls Tryd.prog 9 #[] w fun e w' => e = .returned (.bool true) ∧ Below w.heap.size w w' := by
  have he : Hid (∀ w, LawW w → Calls Tryd.prog 11 #[.agg #[.int .i64 1, .int .i64 3, .int .i64 4, .int .i64 0, .int .i64 8]] w fun e w' => e = .returned (.tuple #[.int .u32 3898867720, .int .i64 0]) ∧ Below w.heap.size w w') := by
    intro w H
    have h := enc_all 1 3 4 0 8 w H
    have hg : goodR 1 3 4 0 8 = true := by decide +kernel
    have hv : encR 1 3 4 0 8 = 3898867720 := by decide +kernel
    rw [hg, hv] at h
    exact h
  have hd : Hid (∀ w, LawW w → Calls Tryd.prog 16 #[.int .u32 0] w fun e w' => e = .returned (.tuple #[.agg #[.int .i64 0, .int .i64 0, .int .i64 0, .int .i64 0, .int .i64 0], .int .i64 4]) ∧ Below w.heap.size w w') := by
    intro w H
    have h := dec_all 0 (by omega) (by omega) w H
    unfold decCells decErr at h
    rw [dec_zero] at h
    exact h
  go_enter Tryd.func9, Tryd.ntmps9
  go_wp2_with (first | (go_at_call 11; refine (he.out _ H).mono ?_; rintro e w1 ⟨rfl, hb1⟩) | (go_at_call 16; refine (hd.out _ (H.next hb1)).mono ?_; rintro e w2 ⟨rfl, hb2⟩))
  go_ret
  exact ⟨rfl, (below_next hb1 hb2).alloc (by have := hb1.size; have := hb2.size; omega) _⟩
end Go.Proofs.YtpbffmkdchiajaaDoor

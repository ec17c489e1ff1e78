/-
  The walks of package ir, eleventh part: Whole, of a module without calls.
-/
import Derived.Test.YtpbffmkdchiajaaDoorIr9
import Derived.Test.YtpbffmkdchiajaaDoorIr10
namespace Go.Proofs.YtpbffmkdchiajaaDoor
open Go.RowKit Go.Shelf Go.Lib
def wholeF (m : ModD) : Bool := m.funcs.all irGoodF && !m.threads.any (thrBad m.funcs)
structure WholeRel (W1 : World) (m : ModD) (k : Nat) (wr : World) : Prop where
  below : Below W1.heap.size W1 wr
  good : (m.funcs.take k).all irGoodF = true
theorem all_step {α : Type} (p : α → Bool) (l : List α) (k : Nat) (x : α) (hx : l[k]? = some x) (h : (l.take k).all p = true) (hp : p x = true) : (l.take (k + 1)).all p = true := by
  rw [List.take_add_one, hx, List.all_append, h]
  simp [hp]
theorem all_miss {α : Type} (p : α → Bool) (l : List α) (k : Nat) (x : α) (hx : l[k]? = some x) (hp : p x = false) : l.all p = false := by
  rw [List.all_eq_false]
  exact ⟨x, List.mem_of_getElem? hx, by simp [hp]⟩
set_option maxRecDepth 100000 in
set_option maxHeartbeats 4000000 in
theorem whole_any (m : ModD) (w : World) (H : m.Ok w) (hno : ∀ f ∈ m.funcs, ∀ x ∈ f.code, (x.op == 14) = false) (hsz : ∀ f ∈ m.funcs, f.code.length ≤ 100000) :
    Calls Tryd.prog 37 #[.agg #[.slice m.fad m.funcs.length m.fcap, .slice m.tad m.threads.length m.tcap]] w fun e w' => e = .returned (.bool (wholeF m)) ∧ Below w.heap.size w w' := by
  have HB := Lib.hid (Blk.new w #[.slice m.fad m.funcs.length m.fcap, .slice m.tad m.threads.length m.tcap] 65)
  have HW := Lib.hid ((Below.refl w.heap.size w).alloc (Nat.le_refl _) (.cells #[.slice m.fad m.funcs.length m.fcap, .slice m.tad m.threads.length m.tcap] 65))
  have HH := Lib.hid (H.below HW.out (Nat.le_refl _))
  have hn := H.rows.1
  simp only [List.length_map] at hn
  have hno := Lib.hid hno
  have hsz := Lib.hid hsz
  clear H
  go_enter Tryd.func37, Tryd.ntmps37
  go_wp2
  generalize w.alloc (.cells #[.slice m.fad m.funcs.length m.fcap, .slice m.tad m.threads.length m.tcap] 65) = W1 at *
  have hlt := HB.out.lt
  go_loopw [10] (fun i wr => ∃ k : Nat, k ≤ m.funcs.length ∧ i = .int .i64 k ∧ WholeRel W1 m k wr) (fun i _ => m.funcs.length - (intOf i).toNat)
  case atStart => exact ⟨0, Nat.zero_le _, rfl, Below.refl _ _, by simp⟩
  case round =>
    obtain ⟨k, hk, rfl, hr⟩ := hrel
    by_cases hlk : k < m.funcs.length
    · have d1 : decide ((k : Int) < (m.funcs.length : Int)) = true := decide_eq_true (by omega)
      obtain ⟨f, hf⟩ : ∃ f, m.funcs[k]? = some f := ⟨m.funcs[k], List.getElem?_eq_getElem hlk⟩
      have hfm : f ∈ m.funcs := List.mem_of_getElem? hf
      obtain ⟨b, off, had, hbs, hat⟩ := HH.out.at (by omega)
      have hI := Lib.hid ((hat k f hf).below hr.below hbs)
      have HF := Lib.hid ((HH.out.fs f hfm).below (hr.below.alloc hr.below.size (.cells #[.string f.name, .int .i64 f.params, .int .i64 f.regs, .slice f.ad f.code.length f.cap] 68)) (Nat.le_refl _))
      have hnoF := Lib.hid (hno.out f hfm)
      have hszF := hsz.out f hfm
      have hr1 := Lib.hid (hr.below.alloc hr.below.size (.cells #[.string f.name, .int .i64 f.params, .int .i64 f.regs, .slice f.ad f.code.length f.cap] 68))
      have HC := Lib.hid (Blk.new wr #[.string f.name, .int .i64 f.params, .int .i64 f.regs, .slice f.ad f.code.length f.cap] 68)
      have had := Lib.hid had
      have hf := Lib.hid hf
      have q0 := hI.out.c0
      have q1 := hI.out.c1
      have q2 := hI.out.c2
      have q3 := hI.out.c3
      rw [had.out]
      clear hat
      have hkk : k + 1 ≤ m.funcs.length := hlk
      cases hg : irGoodF f
      · go_wp2_with (go_at_call 38; refine (irGood_any f _ HF.out hszF).mono ?_; rintro e w2 ⟨rfl, hb2⟩; have hb2 := Lib.hid hb2)
        go_ret
        refine ⟨ret_bool ?_, ?_⟩
        · rw [wholeF, all_miss _ _ _ _ hf.out hg]; rfl
        · exact below_then HW.out (by omega) (below_then hr1.out hr1.out.size hb2.out)
      · go_wp2_with (go_at_call 38; refine (irGood_any f _ HF.out hszF).mono ?_; rintro e w2 ⟨rfl, hb2⟩; have HC := Lib.hid (HC.out.below hb2 HC.out.lt); have s3 := HC.out.cell 3; simp at s3; have hr2 := Lib.hid (below_then hr1.out hr1.out.size hb2); have HF := Lib.hid (HF.out.below hb2 (Nat.le_refl _)); have hb2 := Lib.hid hb2)
        generalize wr.heap.size = C at *
        go_loopw [20] (fun i wx => ∃ j : Nat, j ≤ f.code.length ∧ i = .int .i64 j ∧ Below w2.heap.size w2 wx) (fun i _ => f.code.length - (intOf i).toNat)
        case atStart => exact ⟨0, Nat.zero_le _, rfl, Below.refl _ _⟩
        case round =>
          obtain ⟨j, hj, rfl, hx⟩ := hrel
          by_cases hjl : j < f.code.length
          · have d2 : decide ((j : Int) < (f.code.length : Int)) = true := decide_eq_true (by omega)
            obtain ⟨x, hfx⟩ : ∃ x, f.code[j]? = some x := ⟨f.code[j], List.getElem?_eq_getElem hjl⟩
            obtain ⟨b2, off2, had2, hbs2, hat2⟩ := HF.out.at (by omega)
            have hI2 := Lib.hid ((hat2 j x hfx).below hx hbs2)
            have had2 := Lib.hid had2
            have d3 := hnoF.out x (List.mem_of_getElem? hfx)
            have hfx := Lib.hid hfx
            have r0 := hI2.out.c0
            have r1 := hI2.out.c1
            have r2 := hI2.out.c2
            have r3 := hI2.out.c3
            have r4 := hI2.out.c4
            have r5 := hI2.out.c5
            have r6 := hI2.out.c6
            have r7 := hI2.out.c7
            have r8 := hI2.out.c8
            rw [had2.out]
            clear hat2
            have hjj : j + 1 ≤ f.code.length := hjl
            have hxa := Lib.hid (hx.alloc hx.size (.cells #[.int .i64 x.op, .int .i64 x.d, .int .i64 x.a, .int .i64 x.b, .int .i64 x.imm, .slice x.ad x.args.length x.cap, .int .i64 x.what, .bool x.vol, .bool x.fin] 71))
            go_wp2
            go_quiet (fail)
            go_wp2
            exact ⟨⟨j + 1, hjj, rfl, below_drewN hxa.out _⟩, by simp [intOf]; omega⟩
          · obtain rfl : j = f.code.length := by omega
            have d2 : decide ((f.code.length : Int) < (f.code.length : Int)) = false := decide_eq_false (by omega)
            go_wp2
            exact ⟨⟨k + 1, hkk, rfl, below_then hr2.out hr2.out.size hx, all_step _ _ _ _ hf.out hr.good hg⟩, by simp [intOf]; omega⟩
    · obtain rfl : k = m.funcs.length := by omega
      have d1 : decide ((m.funcs.length : Int) < (m.funcs.length : Int)) = false := decide_eq_false (by omega)
      have P := Lib.hid (HB.out.below hr.below hlt)
      have p0 := P.out.cell 0
      have p1 := P.out.cell 1
      simp at p0 p1
      have hs := hr.good
      rw [List.take_length] at hs
      have hs := Lib.hid hs
      have hbel := Lib.hid (below_then HW.out (by omega) hr.below)
      have hcT := Lib.hid (containsThr m _ (HH.out.below hr.below (Nat.le_refl _)) _ P.out)
      go_wp2_with (go_at_call 91; refine hcT.out.mono ?_; rintro e w2 ⟨rfl, hb2⟩; have hb2 := Lib.hid hb2)
      go_ret
      refine ⟨ret_bool ?_, below_then hbel.out hbel.out.size hb2.out⟩
      rw [wholeF, hs.out, Bool.true_and]
end Go.Proofs.YtpbffmkdchiajaaDoor

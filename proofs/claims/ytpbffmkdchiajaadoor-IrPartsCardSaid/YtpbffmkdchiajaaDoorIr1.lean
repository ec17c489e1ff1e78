/-
  The walks of package ir, first part: great.
-/
import Derived.Test.YtpbffmkdchiajaaDoorIr0
namespace Go.Proofs.YtpbffmkdchiajaaDoor
open Go.RowKit
def greatF (f : FuncD) : Bool := f.code.any (fun x => decide (20 < x.args.length)) || decide (60 < f.code.length) || decide (200 < f.name.size)
structure GreatRel (W1 : World) (f : FuncD) (k : Nat) (wr : World) : Prop where
  below : Below W1.heap.size W1 wr
  small : (f.code.take k).any (fun x => decide (20 < x.args.length)) = false
theorem any_step {α : Type} (p : α → Bool) (l : List α) (k : Nat) (x : α) (hx : l[k]? = some x) (h : (l.take k).any p = false) (hp : p x = false) : (l.take (k + 1)).any p = false := by
  rw [List.take_add_one, hx, List.any_append, h]
  simp [hp]
theorem any_hit {α : Type} (p : α → Bool) (l : List α) (k : Nat) (x : α) (hx : l[k]? = some x) (hp : p x = true) : l.any p = true :=
  List.any_eq_true.2 ⟨x, List.mem_of_getElem? hx, hp⟩
set_option maxHeartbeats 1000000 in
theorem great_any (f : FuncD) (w : World) (H : f.Ok w) :
    Calls Tryd.prog 36 #[.agg #[.string f.name, .int .i64 f.params, .int .i64 f.regs, .slice f.ad f.code.length f.cap]] w fun e w' => e = .returned (.bool (greatF f)) ∧ Below w.heap.size w w' := by
  have HB := Lib.hid (Blk.new w #[.string f.name, .int .i64 f.params, .int .i64 f.regs, .slice f.ad f.code.length f.cap] 68)
  have HW := Lib.hid ((Below.refl w.heap.size w).alloc (Nat.le_refl _) (.cells #[.string f.name, .int .i64 f.params, .int .i64 f.regs, .slice f.ad f.code.length f.cap] 68))
  have HH := Lib.hid (H.below HW.out (Nat.le_refl _))
  have hn := H.rows.1
  simp at hn
  clear H
  go_enter Tryd.func36, Tryd.ntmps36
  go_wp2
  generalize w.alloc (.cells #[.string f.name, .int .i64 f.params, .int .i64 f.regs, .slice f.ad f.code.length f.cap] 68) = W1 at *
  have hlt := HB.out.lt
  go_loopw [8] (fun i wr => ∃ k : Nat, k ≤ f.code.length ∧ i = .int .i64 k ∧ GreatRel W1 f k wr) (fun i _ => f.code.length - (intOf i).toNat)
  case atStart => exact ⟨0, Nat.zero_le _, rfl, Below.refl _ _, by simp⟩
  case round =>
    obtain ⟨k, hk, rfl, hr⟩ := hrel
    by_cases hlk : k < f.code.length
    · have d1 : decide ((k : Int) < (f.code.length : Int)) = true := decide_eq_true (by omega)
      obtain ⟨x, hx⟩ : ∃ x, f.code[k]? = some x := ⟨f.code[k], List.getElem?_eq_getElem hlk⟩
      obtain ⟨b, off, had, hbs, hat⟩ := HH.out.at (by omega)
      have hI := Lib.hid ((hat k x hx).below hr.below hbs)
      have had := Lib.hid had
      have hx := Lib.hid hx
      have q0 := hI.out.c0
      have q1 := hI.out.c1
      have q2 := hI.out.c2
      have q3 := hI.out.c3
      have q4 := hI.out.c4
      have q5 := hI.out.c5
      have q6 := hI.out.c6
      have q7 := hI.out.c7
      have q8 := hI.out.c8
      rw [had.out]
      clear hat
      have hkk : k + 1 ≤ f.code.length := hlk
      cases hg : decide (20 < x.args.length)
      · have d2 : decide ((20 : Int) < (x.args.length : Int)) = false := decide_eq_false (by have := of_decide_eq_false hg; omega)
        go_wp2
        exact ⟨⟨k + 1, hkk, rfl, hr.below.alloc hr.below.size _, any_step _ _ _ _ hx.out hr.small hg⟩, by simp [intOf]; omega⟩
      · have d2 : decide ((20 : Int) < (x.args.length : Int)) = true := decide_eq_true (by have := of_decide_eq_true hg; omega)
        go_wp2
        go_ret
        refine ⟨ret_bool ?_, ?_⟩
        · unfold greatF
          rw [any_hit _ _ _ _ hx.out hg]; rfl
        · exact below_then HW.out (by omega) (hr.below.alloc hr.below.size _)
    · obtain rfl : k = f.code.length := by omega
      have d1 : decide ((f.code.length : Int) < (f.code.length : Int)) = false := decide_eq_false (by omega)
      have P := Lib.hid (HB.out.below hr.below hlt)
      have p0 := P.out.cell 0
      have p3 := P.out.cell 3
      simp at p0 p3
      have hs := hr.small
      rw [List.take_length] at hs
      have hs := Lib.hid hs
      have hbel := below_then HW.out (by omega) hr.below
      go_wp2
      all_goals
        go_ret
        refine ⟨ret_bool ?_, hbel⟩
        unfold greatF
        rw [hs.out, Bool.false_or]
        simp [*]
        try omega
end Go.Proofs.YtpbffmkdchiajaaDoor

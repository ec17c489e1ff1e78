/-
  The walks of package ir, seventh part: the closure of Good over a function's instructions.
-/
import Derived.Test.YtpbffmkdchiajaaDoorIr6
namespace Go.Proofs.YtpbffmkdchiajaaDoor
open Go.RowKit Go.Shelf Go.Lib
/-- An instruction whose arguments lie in a world. -/
def InsIn (w : World) : Type := {x : InsD // IntsOk w x.ad x.args}
theorem ints_none (w : World) (ad : Option Addr) : IntsOk w ad [] := ⟨by simp, by simp⟩
instance (w : World) : Inhabited (InsIn w) := ⟨⟨default, ints_none w none⟩⟩
set_option maxHeartbeats 4000000 in
theorem goodClos (f : FuncD) (w : World) (B L : Nat) (lad : Option Addr) (lcap : Nat) (labs : List Int) (hB : Blk w B #[.string f.name, .int .i64 f.params, .int .i64 f.regs, .slice f.ad f.code.length f.cap] 68) (hL : Blk w L #[.slice lad labs.length lcap] 39) (HL : IntsOk w lad labs) :
    PredBelow Tryd.prog 98 #[.pointer (some ⟨B, 0, none⟩), .pointer (some ⟨L, 0, none⟩)] (fun x : InsIn w => Value.agg x.1.enc.toArray) (fun x => !insGoodF f.regs x.1 labs) w := fun W y hb => by
  obtain ⟨x, HX⟩ := y
  have lB := hB.lt
  have lL := hL.lt
  have hB1 := Lib.hid (hB.below hb lB)
  have hL1 := Lib.hid (hL.below hb lL)
  have HX1 := Lib.hid ((HX.below hb (Nat.le_refl _)).below ((Below.refl W.heap.size W).alloc (Nat.le_refl _) (.cells #[.int .i64 x.op, .int .i64 x.d, .int .i64 x.a, .int .i64 x.b, .int .i64 x.imm, .slice x.ad x.args.length x.cap, .int .i64 x.what, .bool x.vol, .bool x.fin] 71)) (Nat.le_refl _))
  have HL1 := Lib.hid ((HL.below hb (Nat.le_refl _)).below ((Below.refl W.heap.size W).alloc (Nat.le_refl _) (.cells #[.int .i64 x.op, .int .i64 x.d, .int .i64 x.a, .int .i64 x.b, .int .i64 x.imm, .slice x.ad x.args.length x.cap, .int .i64 x.what, .bool x.vol, .bool x.fin] 71)) (Nat.le_refl _))
  have hb := Lib.hid (hb.alloc hb.size (.cells #[.int .i64 x.op, .int .i64 x.d, .int .i64 x.a, .int .i64 x.b, .int .i64 x.imm, .slice x.ad x.args.length x.cap, .int .i64 x.what, .bool x.vol, .bool x.fin] 71))
  show Calls Tryd.prog 98 #[.agg #[.int .i64 x.op, .int .i64 x.d, .int .i64 x.a, .int .i64 x.b, .int .i64 x.imm, .slice x.ad x.args.length x.cap, .int .i64 x.what, .bool x.vol, .bool x.fin], .pointer (some ⟨B, 0, none⟩), .pointer (some ⟨L, 0, none⟩)] W fun e w' => e = .returned (.bool (!insGoodF f.regs x labs)) ∧ Below w.heap.size w w'
  clear HX HL hB hL
  have p0 := (hB1.out.alloc (.cells #[.int .i64 x.op, .int .i64 x.d, .int .i64 x.a, .int .i64 x.b, .int .i64 x.imm, .slice x.ad x.args.length x.cap, .int .i64 x.what, .bool x.vol, .bool x.fin] 71)).cell 0
  have p1 := (hB1.out.alloc (.cells #[.int .i64 x.op, .int .i64 x.d, .int .i64 x.a, .int .i64 x.b, .int .i64 x.imm, .slice x.ad x.args.length x.cap, .int .i64 x.what, .bool x.vol, .bool x.fin] 71)).cell 1
  have p2 := (hB1.out.alloc (.cells #[.int .i64 x.op, .int .i64 x.d, .int .i64 x.a, .int .i64 x.b, .int .i64 x.imm, .slice x.ad x.args.length x.cap, .int .i64 x.what, .bool x.vol, .bool x.fin] 71)).cell 2
  have p3 := (hB1.out.alloc (.cells #[.int .i64 x.op, .int .i64 x.d, .int .i64 x.a, .int .i64 x.b, .int .i64 x.imm, .slice x.ad x.args.length x.cap, .int .i64 x.what, .bool x.vol, .bool x.fin] 71)).cell 3
  have q0 := (hL1.out.alloc (.cells #[.int .i64 x.op, .int .i64 x.d, .int .i64 x.a, .int .i64 x.b, .int .i64 x.imm, .slice x.ad x.args.length x.cap, .int .i64 x.what, .bool x.vol, .bool x.fin] 71)).cell 0
  simp at p0 p1 p2 p3 q0
  go_enter Tryd.func98, Tryd.ntmps98
  go_wp2_with (go_at_call 99; refine (insGood_any f x lad lcap labs _ HX1.out HL1.out).mono ?_; rintro e w1 ⟨rfl, hb1⟩; have hb1 := Lib.hid hb1)
  go_ret
  exact ⟨rfl, below_then hb.out (by have := hb.out.size; omega) hb1.out⟩
theorem eg98 : ∀ args w, (callFunc 98 args).run Tryd.prog w = .ok (.enter 98 args) w := enters_of Tryd.func98 (by kernel_rfl) rfl
theorem containsIns (f : FuncD) (w : World) (H : f.Ok w) (B L : Nat) (lad : Option Addr) (lcap : Nat) (labs : List Int) (hB : Blk w B #[.string f.name, .int .i64 f.params, .int .i64 f.regs, .slice f.ad f.code.length f.cap] 68) (hL : Blk w L #[.slice lad labs.length lcap] 39) (HL : IntsOk w lad labs) (h0 : 0 < f.code.length) :
    Calls Tryd.prog 97 #[.slice f.ad f.code.length f.cap, .func (.func 98) #[] #[.pointer (some ⟨B, 0, none⟩), .pointer (some ⟨L, 0, none⟩)]] w fun e w' => e = .returned (.bool (f.code.any (fun x => !insGoodF f.regs x labs))) ∧ Below w.heap.size w w' := by
  obtain ⟨b, off, had, hlt, hc⟩ := H.rows.2 (by simpa using h0)
  have hn := H.rows.1
  simp only [List.length_map] at hn hc
  let zs : List (InsIn w) := f.code.attachWith (fun x => IntsOk w x.ad x.args) H.args
  have hz : zs.length = f.code.length := List.length_attachWith
  have hmap : zs.map (·.1) = f.code := by
    exact List.attachWith_map_subtype_val _
  have hget : ∀ j, j < zs.length → (zs[j]!).1 = f.code.getD j default := fun j hj => by
    rw [getElem!_pos zs j hj, ← hmap]
    simp [List.getD, hj]
  have hcon := AnyQ.slices_ContainsFunc Tryd.laysCF97 9 (fun w => by kernel_rfl) (fun w => by kernel_rfl) (fun x : InsIn w => x.1.enc) (fun _ => rfl) (fun x => !insGoodF f.regs x.1 labs) 98 #[.pointer (some ⟨B, 0, none⟩), .pointer (some ⟨L, 0, none⟩)] eg98 b off f.code.length f.cap zs w
    (goodClos f w B L lad lcap labs hB hL HL) (by omega) hn hlt (fun j hj i v hv => by
      refine hc j (by omega) i v ?_
      rw [hget j hj] at hv
      simpa [List.getD, hz ▸ hj] using hv)
  rw [List.take_of_length_le (by omega)] at hcon
  rw [had]
  have e : zs.any (fun x => !insGoodF f.regs x.1 labs) = f.code.any (fun x => !insGoodF f.regs x labs) := by
    rw [← hmap, List.any_map]; rfl
  rw [← e]
  exact hcon
end Go.Proofs.YtpbffmkdchiajaaDoor

/-
  The walks of package ir, sixth part: good.
-/
import Derived.Test.YtpbffmkdchiajaaDoorIr4
import Derived.Test.YtpbffmkdchiajaaDoorIr5
namespace Go.Proofs.YtpbffmkdchiajaaDoor
open Go.RowKit
def aHas (x : InsD) : Bool := if (x.op == 21) = true then x.imm == 3 else (irShapeF x.op).2.1
def regsOk (regs : Int) (x : InsD) : Bool :=
  irRegF (irShapeF x.op).1 (x.op == 14) x.d regs && (irRegF (aHas x) (x.op == 9 || x.op == 10 || x.op == 15) x.a regs && irRegF (irShapeF x.op).2.2.1 false x.b regs)
def headOk (x : InsD) : Bool := !decide (x.op < 1) && (!decide (22 < x.op) && bareF x.op x.a x.imm x.what x.vol x.fin x.args.length)
def insGoodF (regs : Int) (x : InsD) (labs : List Int) : Bool :=
  headOk x && (regsOk regs x && ((!(irShapeF x.op).2.2.2 || labs.contains x.imm) && !x.args.any (argBad regs)))
set_option maxRecDepth 100000 in
set_option maxHeartbeats 4000000 in
theorem insGood_any (f : FuncD) (x : InsD) (lad : Option Addr) (lcap : Nat) (labs : List Int) (w : World) (HX : IntsOk w x.ad x.args) (HL : IntsOk w lad labs) :
    Calls Tryd.prog 99 #[.agg #[.string f.name, .int .i64 f.params, .int .i64 f.regs, .slice f.ad f.code.length f.cap], .agg #[.int .i64 x.op, .int .i64 x.d, .int .i64 x.a, .int .i64 x.b, .int .i64 x.imm, .slice x.ad x.args.length x.cap, .int .i64 x.what, .bool x.vol, .bool x.fin], .slice lad labs.length lcap] w fun e w' => e = .returned (.bool (insGoodF f.regs x labs)) ∧ Below w.heap.size w w' := by
  have BX := Lib.hid (((Below.refl w.heap.size w).alloc (Nat.le_refl _) (.cells #[.string f.name, .int .i64 f.params, .int .i64 f.regs, .slice f.ad f.code.length f.cap] 68)).alloc (by simp) (.cells #[.int .i64 x.op, .int .i64 x.d, .int .i64 x.a, .int .i64 x.b, .int .i64 x.imm, .slice x.ad x.args.length x.cap, .int .i64 x.what, .bool x.vol, .bool x.fin] 71))
  have P1 := Lib.hid ((Blk.new w #[.string f.name, .int .i64 f.params, .int .i64 f.regs, .slice f.ad f.code.length f.cap] 68).alloc (.cells #[.int .i64 x.op, .int .i64 x.d, .int .i64 x.a, .int .i64 x.b, .int .i64 x.imm, .slice x.ad x.args.length x.cap, .int .i64 x.what, .bool x.vol, .bool x.fin] 71))
  have P2 : Hid (Blk ((w.alloc (.cells #[.string f.name, .int .i64 f.params, .int .i64 f.regs, .slice f.ad f.code.length f.cap] 68)).alloc (.cells #[.int .i64 x.op, .int .i64 x.d, .int .i64 x.a, .int .i64 x.b, .int .i64 x.imm, .slice x.ad x.args.length x.cap, .int .i64 x.what, .bool x.vol, .bool x.fin] 71)) (w.heap.size + 1) #[.int .i64 x.op, .int .i64 x.d, .int .i64 x.a, .int .i64 x.b, .int .i64 x.imm, .slice x.ad x.args.length x.cap, .int .i64 x.what, .bool x.vol, .bool x.fin] 71) := by
    have h := Blk.new (w.alloc (.cells #[.string f.name, .int .i64 f.params, .int .i64 f.regs, .slice f.ad f.code.length f.cap] 68)) #[.int .i64 x.op, .int .i64 x.d, .int .i64 x.a, .int .i64 x.b, .int .i64 x.imm, .slice x.ad x.args.length x.cap, .int .i64 x.what, .bool x.vol, .bool x.fin] 71
    have e : (w.alloc (.cells #[.string f.name, .int .i64 f.params, .int .i64 f.regs, .slice f.ad f.code.length f.cap] 68)).heap.size = w.heap.size + 1 := by simp
    rw [e] at h
    exact Lib.hid h
  have HX := Lib.hid HX
  have HL := Lib.hid HL
  go_enter Tryd.func99, Tryd.ntmps99
  go_wp2_with (first
    | (go_at_call 141; refine (bare_any _ _ _ _ _ _ _ _ _ _ _ _).mono ?_; rintro e w1 ⟨rfl, hb1⟩; have P1 := Lib.hid (P1.out.below hb1 P1.out.lt); have P2 := Lib.hid (P2.out.below hb1 P2.out.lt); have HX := Lib.hid ((HX.out.below BX.out (Nat.le_refl _)).below hb1 (Nat.le_refl _)); have HL := Lib.hid ((HL.out.below BX.out (Nat.le_refl _)).below hb1 (Nat.le_refl _)); have BX := Lib.hid (below_next BX.out hb1); have hb1 := Lib.hid hb1;
       have s2 := P1.out.cell 2; have t0 := P2.out.cell 0; have t1 := P2.out.cell 1; have t2 := P2.out.cell 2; have t3 := P2.out.cell 3; have t4 := P2.out.cell 4; have t5 := P2.out.cell 5; simp at s2 t0 t1 t2 t3 t4 t5)
    | (go_at_call 142; refine (irShape_any _ _).mono ?_; rintro e w' ⟨rfl, rfl⟩)
    | (go_at_call 143; refine (irReg_any _ _ _ _ _).mono ?_; rintro e w' ⟨rfl, rfl⟩)
    | (go_at_call 144; refine (containsLab _ _ _ _ _ HL.out).mono ?_; rintro e w' ⟨rfl, rfl⟩)
    | (go_at_call 91; refine (containsBad _ _ _ _ HX.out _ _ P1.out.lt s2).mono ?_; rintro e w' ⟨rfl, hb2⟩; have hb2 := Lib.hid hb2))
  all_goals
    go_ret
    refine ⟨ret_bool ?_, ?_⟩
    · first
        | (rename_i hh; rcases hh with (hh | hh) | hh; (simp [insGoodF, headOk, hh]); (simp [insGoodF, headOk, hh]); (rw [Bool.not_eq_true'] at hh; simp [insGoodF, headOk, hh]))
        | (solve | simp_all [insGoodF, headOk, regsOk, aHas])
    · first | exact BX.out | exact below_next BX.out hb2.out
end Go.Proofs.YtpbffmkdchiajaaDoor

/-
  The walks of package ir, second part: Labels.
-/
import Derived.Test.YtpbffmkdchiajaaDoorIr1
namespace Go.Proofs.YtpbffmkdchiajaaDoor
open Go.RowKit
def labOf (l : List InsD) : List Int := (l.filter (fun x => decide (x.op = 11))).map (·.imm)
def labels (f : FuncD) : List Int := labOf f.code
theorem labOf_step (l : List InsD) (k : Nat) (x : InsD) (hx : l[k]? = some x) : labOf (l.take (k + 1)) = labOf (l.take k) ++ (if x.op = 11 then [x.imm] else []) := by
  unfold labOf
  rw [List.take_add_one, hx, List.filter_append, List.map_append]
  by_cases h : x.op = 11
  · simp [h]
  · simp [h]
theorem labOf_len (l : List InsD) : (labOf l).length ≤ l.length := by
  unfold labOf
  simpa using List.length_filter_le _ l
structure LabRel (W1 : World) (f : FuncD) (k : Nat) (v : Value) (wr : World) : Prop where
  below : Below W1.heap.size W1 wr
  own : wr.ownsRow W1.heap.size 3 1 v ((labOf (f.code.take k)).map (Value.int .i64)).length ((labOf (f.code.take k)).map (Value.int .i64))
theorem own_mono {w : World} {base base' n : Nat} {e : TypeId} {size : Nat} {v : Value} {xs : List Value} (h : w.ownsRow base e size v n xs) (hb : base' ≤ base) : w.ownsRow base' e size v n xs :=
  ⟨h.1, h.2.imp id fun ⟨g, cap, cur, h1, h2, h3⟩ => ⟨g, cap, cur, h1, Nat.le_trans hb h2, h3⟩⟩
set_option maxRecDepth 100000 in
set_option maxHeartbeats 1000000 in
theorem labels_any (f : FuncD) (w : World) (H : f.Ok w) (hsz : f.code.length ≤ 100000) :
    Calls Tryd.prog 93 #[.agg #[.string f.name, .int .i64 f.params, .int .i64 f.regs, .slice f.ad f.code.length f.cap]] w fun e w' => ∃ v, e = .returned v ∧ w'.ownsRow w.heap.size 3 1 v ((labels f).map (Value.int .i64)).length ((labels f).map (Value.int .i64)) ∧ Below w.heap.size w w' := by
  have info3 : (Tryd.prog.info? 3).map (fun i => (i.zero, i.size, i.bytes)) = some (some (.int .i64 0), 1, 8) := by kernel_rfl
  have HB := Lib.hid (Blk.new w #[.string f.name, .int .i64 f.params, .int .i64 f.regs, .slice f.ad f.code.length f.cap] 68)
  have HW := Lib.hid ((Below.refl w.heap.size w).alloc (Nat.le_refl _) (.cells #[.string f.name, .int .i64 f.params, .int .i64 f.regs, .slice f.ad f.code.length f.cap] 68))
  have HH := Lib.hid (H.below HW.out (Nat.le_refl _))
  clear H
  go_enter Tryd.func93, Tryd.ntmps93
  go_wp2
  generalize w.alloc (.cells #[.string f.name, .int .i64 f.params, .int .i64 f.regs, .slice f.ad f.code.length f.cap] 68) = W1 at *
  have hlt := HB.out.lt
  go_loopw [9, 3] (fun i v wr => ∃ k : Nat, k ≤ f.code.length ∧ i = .int .i64 k ∧ LabRel W1 f k v wr) (fun i _ _ => f.code.length - (intOf i).toNat)
  case atStart => exact ⟨0, Nat.zero_le _, rfl, Below.refl _ _, by simp [labOf, World.ownsRow]⟩
  case round =>
    obtain ⟨k, hk, rfl, hr⟩ := hrel
    by_cases hlk : k < f.code.length
    · have d1 : decide ((k : Int) < (f.code.length : Int)) = true := decide_eq_true (by omega)
      obtain ⟨x, hx⟩ : ∃ x, f.code[k]? = some x := ⟨f.code[k], List.getElem?_eq_getElem hlk⟩
      obtain ⟨b, off, had, hbs, hat⟩ := HH.out.at (by omega)
      have hI := Lib.hid ((hat k x hx).below hr.below hbs)
      have had := Lib.hid had
      have hx := Lib.hid hx
      have q0 := hI.out.c0
      have q1 := hI.out.c1
      have q2 := hI.out.c2
      have q3 := hI.out.c3
      have q4 := hI.out.c4
      have q5 := hI.out.c5
      have q6 := hI.out.c6
      have q7 := hI.out.c7
      have q8 := hI.out.c8
      rw [had.out]
      clear hat
      have hkk : k + 1 ≤ f.code.length := hlk
      have ho2 := Lib.hid (hr.own.alloc (.cells #[.int .i64 x.op, .int .i64 x.d, .int .i64 x.a, .int .i64 x.b, .int .i64 x.imm, .slice x.ad x.args.length x.cap, .int .i64 x.what, .bool x.vol, .bool x.fin] 71))
      have hB2 := Lib.hid (hr.below.alloc hr.below.size (.cells #[.int .i64 x.op, .int .i64 x.d, .int .i64 x.a, .int .i64 x.b, .int .i64 x.imm, .slice x.ad x.args.length x.cap, .int .i64 x.what, .bool x.vol, .bool x.fin] 71))
      have hll : (labOf (f.code.take k)).length ≤ 100000 := by have := labOf_len (f.code.take k); simp at this; omega
      have hsz1 : ∀ o, (wr.alloc o).heap.size = wr.heap.size + 1 := fun o => by simp
      cases hg : (x.op == 11)
      · go_wp2
        refine ⟨⟨k + 1, hkk, rfl, hB2.out, ?_⟩, by simp [intOf]; omega⟩
        rw [labOf_step _ _ _ hx.out, if_neg (by simpa using hg), List.append_nil]
        exact ho2.out
      · go_wp2_with (at_builtin; refine app_one (w0 := W1) W1.heap.size rfl (.tmp 16) (.tmp 19) 39 3 (.int .i64 0) 8 rfl Tryd.underlying39 info3 rfl (by decide) _ _ (.int .i64 x.imm) rfl (show _ = Value.slice (some ⟨(wr.alloc _).heap.size, 0, none⟩) 1 1 by rw [hsz1]; rfl) rfl ho2.out hB2.out ?_ ?_ ?_; (exact hB2.out.size); (simp only [List.length_map]; omega); intro v1 w1 hown1 hbel1)
        refine ⟨⟨k + 1, hkk, rfl, hbel1, ?_⟩, by simp [intOf]; omega⟩
        rw [labOf_step _ _ _ hx.out, if_pos (by simpa using hg), List.map_append]
        exact hown1
    · obtain rfl : k = f.code.length := by omega
      have d1 : decide ((f.code.length : Int) < (f.code.length : Int)) = false := decide_eq_false (by omega)
      have ho := Lib.hid hr.own
      rw [List.take_length] at ho
      have hbel := below_then HW.out (by omega) hr.below
      have hbs : w.heap.size ≤ W1.heap.size := by omega
      go_wp2
      go_ret
      exact ⟨_, rfl, own_mono ho.out hbs, hbel⟩
end Go.Proofs.YtpbffmkdchiajaaDoor

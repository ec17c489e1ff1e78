/-
  The walks of package ir, tenth part: modules, the closure of Whole over threads.
-/
import Derived.Test.YtpbffmkdchiajaaDoorIr5
namespace Go.Proofs.YtpbffmkdchiajaaDoor
open Go.RowKit Go.Shelf Go.Lib
structure ModD where
  fad : Option Addr
  fcap : Nat
  funcs : List FuncD
  tad : Option Addr
  tcap : Nat
  threads : List Int
structure ModD.Ok (m : ModD) (w : World) : Prop where
  rows : RowsOk w m.fad 4 (m.funcs.map FuncD.enc)
  fs : ∀ f ∈ m.funcs, f.Ok w
  ths : IntsOk w m.tad m.threads
theorem ModD.Ok.below {m : ModD} {w w' : World} {B : Nat} (h : m.Ok w) (hb : Below B w w') (hB : w.heap.size ≤ B) : m.Ok w' :=
  ⟨h.rows.below hb hB, fun f hf => (h.fs f hf).below hb hB, h.ths.below hb hB⟩
/-- The four cells of a function at a place. -/
structure FuncAt (w : World) (b o : Nat) (f : FuncD) : Prop where
  c0 : w.cell? ⟨b, o, none⟩ = some (.string f.name)
  c1 : w.cell? ⟨b, o + 1, none⟩ = some (.int .i64 f.params)
  c2 : w.cell? ⟨b, o + 2, none⟩ = some (.int .i64 f.regs)
  c3 : w.cell? ⟨b, o + 3, none⟩ = some (.slice f.ad f.code.length f.cap)
theorem ModD.Ok.at {m : ModD} {w : World} (h : m.Ok w) (h0 : 0 < m.funcs.length) : ∃ b off, m.fad = some ⟨b, off, none⟩ ∧ b < w.heap.size ∧ ∀ k x, m.funcs[k]? = some x → FuncAt w b (off + k * 4) x := by
  obtain ⟨b, off, e, hlt, hc⟩ := h.rows.2 (by simpa using h0)
  refine ⟨b, off, e, hlt, fun k x hk => ?_⟩
  have hk' : k < m.funcs.length := (List.getElem?_eq_some_iff.1 hk).1
  have key : ∀ i v, x.enc[i]? = some v → w.cell? ⟨b, off + k * 4 + i, none⟩ = some v := fun i v hv => hc k (by simpa using hk') i v (by simpa [List.getD, hk] using hv)
  exact ⟨key 0 _ rfl, key 1 _ rfl, key 2 _ rfl, key 3 _ rfl⟩
theorem FuncAt.below {w w' : World} {B b o : Nat} {x : FuncD} (h : FuncAt w b o x) (hb : Below B w w') (hB : b < B) : FuncAt w' b o x :=
  ⟨(hb.cell (p := ⟨b, o, none⟩) hB).trans h.c0, (hb.cell (p := ⟨b, o + 1, none⟩) hB).trans h.c1, (hb.cell (p := ⟨b, o + 2, none⟩) hB).trans h.c2, (hb.cell (p := ⟨b, o + 3, none⟩) hB).trans h.c3⟩
def parAt (fs : List FuncD) (t : Int) : Int := (fs.getD t.toNat default).params
def thrBad (fs : List FuncD) (t : Int) : Bool := decide (t < 0) || (decide ((fs.length : Int) ≤ t) || !(parAt fs t == 0))
set_option maxHeartbeats 1000000 in
theorem thr_pred (m : ModD) (w : World) (H : m.Ok w) (B : Nat) (hB : Blk w B #[.slice m.fad m.funcs.length m.fcap, .slice m.tad m.threads.length m.tcap] 65) :
    PredAt Tryd.prog 92 #[.pointer (some ⟨B, 0, none⟩)] (Value.int .i64) (thrBad m.funcs) w := fun W x hb => by
  have hn := H.rows.1
  simp only [List.length_map] at hn
  have lB := hB.lt
  have hB1 := Lib.hid (hB.below hb lB)
  have HH := Lib.hid (H.below hb (Nat.le_refl _))
  have p0 := hB1.out.cell 0
  simp at p0
  clear H hB
  show Calls Tryd.prog 92 #[.int .i64 x, .pointer (some ⟨B, 0, none⟩)] W _
  cases c1 : decide (x < 0)
  · cases c2 : decide ((m.funcs.length : Int) ≤ x)
    · have g1 := of_decide_eq_false c1
      have g2 := of_decide_eq_false c2
      obtain ⟨j, rfl⟩ : ∃ j : Nat, x = (j : Int) := ⟨x.toNat, by omega⟩
      have hj : j < m.funcs.length := by omega
      obtain ⟨b, off, had, hbs, hat⟩ := HH.out.at (by omega)
      obtain ⟨f, hf⟩ : ∃ f, m.funcs[j]? = some f := ⟨m.funcs[j], List.getElem?_eq_getElem hj⟩
      have hI := Lib.hid (hat _ f hf)
      rw [had] at p0
      have had := Lib.hid had
      have q1 := hI.out.c1
      have hpar : parAt m.funcs (j : Int) = f.params := by simp [parAt, List.getD, hf]
      have hpar := Lib.hid hpar
      have hf := Lib.hid hf
      clear hat g1 g2
      cases c3 : (f.params == 0)
      all_goals
        go_enter Tryd.func92, Tryd.ntmps92
        go_wp2
        go_ret
        exact ⟨ret_bool (by rw [thrBad, hpar.out]; simp at c1 c2 c3 ⊢; omega), 0, rfl⟩
    · go_enter Tryd.func92, Tryd.ntmps92
      go_wp2
      go_ret
      exact ⟨ret_bool (by simp [thrBad, c1, c2]), 0, rfl⟩
  · go_enter Tryd.func92, Tryd.ntmps92
    go_wp2
    go_ret
    exact ⟨ret_bool (by simp [thrBad, c1]), 0, rfl⟩
theorem eg92 : ∀ args w, (callFunc 92 args).run Tryd.prog w = .ok (.enter 92 args) w := enters_of Tryd.func92 (by kernel_rfl) rfl
theorem containsThr (m : ModD) (w : World) (H : m.Ok w) (B : Nat) (hB : Blk w B #[.slice m.fad m.funcs.length m.fcap, .slice m.tad m.threads.length m.tcap] 65) :
    Calls Tryd.prog 91 #[.slice m.tad m.threads.length m.tcap, .func (.func 92) #[] #[.pointer (some ⟨B, 0, none⟩)]] w fun e w' => e = .returned (.bool (m.threads.any (thrBad m.funcs))) ∧ Below w.heap.size w w' := by
  by_cases h0 : 0 < m.threads.length
  · obtain ⟨b, off, had, hlt, hc⟩ := H.ths.2 h0
    have hcon := AnyE.slices_ContainsFunc Tryd.laysCF91 (Value.int .i64) (thrBad m.funcs) 92 #[.pointer (some ⟨B, 0, none⟩)] eg92 b off m.threads.length m.tcap m.threads w (thr_pred m w H B hB) (Nat.le_refl _) H.ths.1
      (fun j hj => by rw [hc j hj]; simp [List.getD, hj])
    rw [List.take_length] at hcon
    rw [had]
    exact hcon.mono fun e w' ⟨he, q, hw⟩ => ⟨he, by rw [hw]; exact below_drewN (Below.refl _ _) q⟩
  · have hz : m.threads = [] := List.eq_nil_of_length_eq_zero (by omega)
    rw [hz]
    exact (AnyE.slices_ContainsFunc_empty Tryd.laysCF91 m.tad m.tcap _ w).mono fun e w' ⟨he, hw⟩ => ⟨he, by rw [hw]; exact Below.refl _ _⟩
end Go.Proofs.YtpbffmkdchiajaaDoor

/-
  The walk of the law IrParts.
-/
import Derived.Test.YtpbffmkdchiajaaDoorIr13
import Derived.Deep.RegionHeld3
import Derived.Deep.DrawnRows
namespace Go.Proofs.YtpbffmkdchiajaaDoor
open Go.RowKit Go.Shelf Go.Lib
def okF (f : FuncD) : Bool := !greatF f && f.code.all (fun y => !(y.op == 14))
/-- The world in the midst of the statement that lays the greater module: the box of the copy, and what lay before it. -/
structure St (N : Nat) (m : ModD) (w3 X : World) : Prop where
  bel : Below N w3 X
  bn : Blk X N #[.slice m.fad m.funcs.length m.fcap, .slice m.tad m.threads.length m.tcap] 65
  big : N + 1 ≤ X.heap.size
theorem St.drew {N : Nat} {m : ModD} {w3 X : World} (h : St N m w3 X) : St N m w3 X.drew := ⟨below_drew h.bel, h.bn.drew, h.big⟩
theorem St.alloc {N : Nat} {m : ModD} {w3 X : World} (h : St N m w3 X) (o : Obj) : St N m w3 (X.alloc o) := ⟨h.bel.alloc (by have := h.big; omega) o, h.bn.alloc o, by have := h.big; simp; omega⟩
theorem St.grown {N : Nat} {m : ModD} {w3 X w' : World} {row : Option Nat} (h : St N m w3 X) (hg : X.grownBy w' row) (hr : ∀ k, row = some k → N + 1 ≤ k) : St N m w3 w' :=
  ⟨h.bel.grown hg (by have := h.big; omega) (fun k hk => by have := hr k hk; omega), (hg.block N h.bn.lt (fun e => by have := hr N e.symm; omega)).trans h.bn, by have := hg.size; have := h.big; omega⟩
theorem grown_cells {W w' : World} {N : Nat} {row : Option Nat} (hg : W.grownBy w' row) (hs : N + 1 ≤ W.heap.size) (hr : ∀ k, row = some k → N + 1 ≤ k) :
    (∀ b o, b ≤ N → w'.cell? ⟨b, o, none⟩ = W.cell? ⟨b, o, none⟩) ∧ (∀ b o, b ≤ N → w'.frozen? ⟨b, o, none⟩ = W.frozen? ⟨b, o, none⟩) :=
  ⟨fun b o hb => World.cell?_of_block (hg.block b (by omega) (fun e => by have := hr b e.symm; omega)), fun b o hb => World.frozen?_of_block (hg.block b (by omega) (fun e => by have := hr b e.symm; omega))⟩
theorem own_row_ge {w : World} {base n k : Nat} {e : TypeId} {v : Value} {xs : List Value} (h : w.ownsRow base e k v n xs) : ∀ j, v.ownBlock = some j → base ≤ j := fun j hj => (h.lt j hj).1
theorem rows_one {X : World} {b : Nat} {f : FuncD} (h : Blk X b #[.string f.name, .int .i64 f.params, .int .i64 f.regs, .slice f.ad f.code.length f.cap] 68) : RowsOk X (some ⟨b, 0, none⟩) 4 [f.enc] :=
  ⟨by simp, fun _ => ⟨b, 0, rfl, h.lt, fun j hj i v hv => by
    obtain rfl : j = 0 := by simpa using hj
    have := h.cell i
    have e : 0 + 0 * 4 + i = i := by omega
    rw [e, this]
    simpa [List.getD, FuncD.enc] using hv⟩⟩
theorem own_set {w : World} {base n k : Nat} {e : TypeId} {v : Value} {xs : List Value} (h : w.ownsRow base e k v n xs) (a : Addr) (u : Value) (ha : a.block < base) : (w.setCell a u).ownsRow base e k v n xs := by
  refine ⟨h.1, h.2.imp id fun ⟨g, cap, cur, h1, h2, h3, h4⟩ => ⟨g, cap, cur, h1, h2, ?_, h4⟩⟩
  rw [Below.heap_setCell w a u g (by omega)]
  exact h3
theorem parts_rows (m : ModD) (f : FuncD) {w : World} {base n : Nat} {e : TypeId} {v : Value} (h : w.ownsRow base e 4 v n ([] ++ (m.funcs.map FuncD.enc).flatten ++ [f.enc].flatten)) : w.ownsRow base e 4 v n ((m.funcs ++ [f]).map FuncD.enc).flatten := by
  have e : ((m.funcs ++ [f]).map FuncD.enc).flatten = [] ++ (m.funcs.map FuncD.enc).flatten ++ [f.enc].flatten := by simp
  rw [e]
  exact h
theorem rows_set {w : World} {g k : Nat} {rows : List (List Value)} (h : RowsOk w (some ⟨g, 0, none⟩) k rows) (a : Addr) (u : Value) (ha : a.block ≠ g) : RowsOk (w.setCell a u) (some ⟨g, 0, none⟩) k rows :=
  ⟨h.1, fun h0 => by
    obtain ⟨b, off, e, hlt, hc⟩ := h.2 h0
    injection e with e
    injection e with e1 e2
    subst e1; subst e2
    exact ⟨g, 0, rfl, by simpa using hlt, fun j hj i v hv => by rw [World.cell?_setCell_other w a _ u (by intro e; exact ha (by rw [e]))]; exact hc j hj i v hv⟩⟩
theorem parts_law (m : ModD) (f : FuncD) (ad : Option Addr) (cap : Nat) (h : wholeF m = true) : wholeF ⟨ad, cap, m.funcs ++ [f], m.tad, m.tcap, m.threads⟩ = irGoodF f := by
  rw [wholeF, Bool.and_eq_true] at h
  obtain ⟨h1, h2⟩ := h
  have h3 : m.threads.any (thrBad (m.funcs ++ [f])) = false := by
    rw [List.any_eq_false]
    intro t ht
    have h4 : m.threads.any (thrBad m.funcs) = false := by simpa using h2
    have h5 := List.any_eq_false.1 h4 t ht
    simp only [thrBad, Bool.or_eq_true, not_or, decide_eq_true_eq, Bool.not_eq_true', beq_eq_false_iff_ne, ne_eq, Decidable.not_not] at h5 ⊢
    obtain ⟨h6, h7, h8⟩ := h5
    refine ⟨h6, by simp; omega, ?_⟩
    rw [← h8]
    have : t.toNat < m.funcs.length := by omega
    simp [parAt, List.getD, List.getElem?_append_left this]
  show ((m.funcs ++ [f]).all irGoodF && !m.threads.any (thrBad (m.funcs ++ [f]))) = irGoodF f
  rw [h3, List.all_append, h1]
  simp
theorem okF_no {g : FuncD} (h : okF g = true) : ∀ x ∈ g.code, (x.op == 14) = false := by
  intro x hx
  rw [okF, Bool.and_eq_true] at h
  have := List.all_eq_true.1 h.2 x hx
  simpa using this
theorem okF_sz {g : FuncD} (h : okF g = true) : g.code.length ≤ 100000 := by
  rw [okF, Bool.and_eq_true] at h
  have h1 := h.1
  simp only [greatF, Bool.not_eq_true', Bool.or_eq_false_iff, decide_eq_false_iff_not] at h1
  omega
theorem own_one {w : World} {base k : Nat} {e : TypeId} (cs : Array Value) (hk : cs.size = k) (hb : base ≤ w.heap.size) : (w.alloc (.cells cs e)).ownsRow base e k (.slice (some ⟨w.heap.size, 0, none⟩) 1 1) 1 cs.toList :=
  ⟨by simpa using hk, .inr ⟨w.heap.size, 1, cs, rfl, hb, heap_alloc_new w _, Nat.le_refl _, by decide, by omega, List.take_of_length_le (by simp [hk])⟩⟩
theorem enc_len (f : FuncD) : f.enc.length = 4 := rfl
theorem encs_len (fs : List FuncD) : ∀ r ∈ fs.map FuncD.enc, r.length = 4 := by
  intro r hr
  obtain ⟨f, _, rfl⟩ := List.mem_map.1 hr
  rfl
theorem encs_one (fs : List FuncD) : ∀ r ∈ fs.map FuncD.enc, ∀ u ∈ r, u.oneCell' = true := by
  intro r hr u hu
  obtain ⟨f, _, rfl⟩ := List.mem_map.1 hr
  simp only [FuncD.enc, List.mem_cons, List.not_mem_nil, or_false] at hu
  rcases hu with rfl | rfl | rfl | rfl <;> rfl
theorem info68 : (Tryd.prog.info? 68).map (fun i => (i.zero, i.size, i.bytes)) = some (some (.agg #[.string ⟨#[]⟩, .int .i64 0, .int .i64 0, .slice none 0 0]), 4, 56) := by kernel_rfl
structure PartsRel (W1 : World) (fs : List FuncD) (k : Nat) (wr : World) : Prop where
  below : Below W1.heap.size W1 wr
  ok : (fs.take k).all okF = true
set_option maxRecDepth 100000 in
set_option maxHeartbeats 4000000 in
theorem irParts_any (m : ModD) (f : FuncD) (w : World) (IW : IrW w) (HM : m.Ok w) (HF : f.Ok w) (hnil : m.fad = none → m.fcap = 0) (hby : (1 + m.funcs.length) * 56 ≤ 140737488355328) :
    Calls Tryd.prog 7 #[.agg #[.slice m.fad m.funcs.length m.fcap, .slice m.tad m.threads.length m.tcap], .agg #[.string f.name, .int .i64 f.params, .int .i64 f.regs, .slice f.ad f.code.length f.cap]] w fun e w' => e = .returned (.bool true) ∧ Below w.heap.size w w' := by
  have BW := Lib.hid (((Below.refl w.heap.size w).alloc (Nat.le_refl _) (.cells #[.slice m.fad m.funcs.length m.fcap, .slice m.tad m.threads.length m.tcap] 65)).alloc (by simp) (.cells #[.string f.name, .int .i64 f.params, .int .i64 f.regs, .slice f.ad f.code.length f.cap] 68))
  have B2 := Lib.hid ((Blk.new w #[.slice m.fad m.funcs.length m.fcap, .slice m.tad m.threads.length m.tcap] 65).alloc (.cells #[.string f.name, .int .i64 f.params, .int .i64 f.regs, .slice f.ad f.code.length f.cap] 68))
  have B3 : Hid (Blk ((w.alloc (.cells #[.slice m.fad m.funcs.length m.fcap, .slice m.tad m.threads.length m.tcap] 65)).alloc (.cells #[.string f.name, .int .i64 f.params, .int .i64 f.regs, .slice f.ad f.code.length f.cap] 68)) (w.heap.size + 1) #[.string f.name, .int .i64 f.params, .int .i64 f.regs, .slice f.ad f.code.length f.cap] 68) := by
    have h := Blk.new (w.alloc (.cells #[.slice m.fad m.funcs.length m.fcap, .slice m.tad m.threads.length m.tcap] 65)) #[.string f.name, .int .i64 f.params, .int .i64 f.regs, .slice f.ad f.code.length f.cap] 68
    have e : (w.alloc (.cells #[.slice m.fad m.funcs.length m.fcap, .slice m.tad m.threads.length m.tcap] 65)).heap.size = w.heap.size + 1 := by simp
    rw [e] at h
    exact Lib.hid h
  have HM := Lib.hid (HM.below BW.out (Nat.le_refl _))
  have HF := Lib.hid (HF.below BW.out (Nat.le_refl _))
  have IW := Lib.hid (IW.below BW.out IW.nb)
  have hnil := Lib.hid hnil
  have hlm : m.funcs.length ≤ 140737488355328 := by omega
  have hby := Lib.hid hby
  go_enter Tryd.func7, Tryd.ntmps7
  go_wp2_with (first
    | (go_at_call 35; refine (alive08_any _ IW.out).mono ?_; rintro e w1 ⟨rfl, hb⟩; have B2 := Lib.hid (B2.out.below hb B2.out.lt); have B3 := Lib.hid (B3.out.below hb B3.out.lt); have HM := Lib.hid (HM.out.below hb (Nat.le_refl _)); have HF := Lib.hid (HF.out.below hb (Nat.le_refl _)); have BW := Lib.hid (below_next BW.out hb); have hb := Lib.hid hb; have p0 := B3.out.cell 0; have p1 := B3.out.cell 1; have p2 := B3.out.cell 2; have p3 := B3.out.cell 3; have q0 := B2.out.cell 0; simp at p0 p1 p2 p3 q0; have l1 := B2.out.lt; have l2 := B3.out.lt)
    | (at_builtin
       go_loud (refine app_rows rfl (.tmp 13) (.tmp 15) 63 rfl w1.heap.size 68 _ 4 56 Tryd.underlying63 info68 rfl (by decide) (by decide) _ 1 #[.string f.name, .int .i64 f.params, .int .i64 f.regs, .slice f.ad f.code.length f.cap].toList rfl (own_one _ rfl (Nat.le_refl _)) m.fad m.funcs.length m.fcap (m.funcs.map FuncD.enc) rfl (HM.out.below ((Below.refl w1.heap.size w1).alloc (Nat.le_refl _) (.cells #[.string f.name, .int .i64 f.params, .int .i64 f.regs, .slice f.ad f.code.length f.cap] 68)) (Nat.le_refl _)).rows (by simp) (encs_len _) (encs_one _) hnil.out hby.out (by simp) ?_; intro v1 w2 hown hgr)
       have hbel := ((Below.refl w1.heap.size w1).alloc (Nat.le_refl _) (.cells #[.string f.name, .int .i64 f.params, .int .i64 f.regs, .slice f.ad f.code.length f.cap] 68)).grown hgr (by simp) (fun k hk => by have := ((own_one (w := w1) (e := 68) #[.string f.name, .int .i64 f.params, .int .i64 f.regs, .slice f.ad f.code.length f.cap] (k := 4) rfl (Nat.le_refl _)).lt k hk).1; exact this)
       have hown : w2.ownsRow w1.heap.size 68 4 v1 (1 + m.funcs.length) ((f :: m.funcs).map FuncD.enc).flatten := hown
       obtain ⟨g0, cap0, rfl, hg0, hg1, hrows⟩ := rows_own hown (by simp; omega) (by omega) (encs_len _)
       obtain ⟨fs, hfs⟩ : ∃ fs, fs = f :: m.funcs := ⟨_, rfl⟩
       rw [← hfs] at hrows
       have hlen : fs.length = 1 + m.funcs.length := by rw [hfs]; simp; omega
       have B2 := Lib.hid (B2.out.below hbel B2.out.lt)
       have B3 := Lib.hid (B3.out.below hbel B3.out.lt)
       have HM := Lib.hid (HM.out.below hbel (Nat.le_refl _))
       have HF := Lib.hid (HF.out.below hbel (Nat.le_refl _))
       have BW := Lib.hid (below_next BW.out hbel)
       have HS : Hid (ModD.Ok ⟨some ⟨g0, 0, none⟩, cap0, fs, none, 0, []⟩ w2) := Lib.hid ⟨hrows, by
         rw [hfs]
         intro x hx
         rcases List.mem_cons.1 hx with h | h
         · rw [h]; exact HF.out
         · exact HM.out.fs x h, ints_none _ _⟩
       clear hown hgr hbel hrows p0 p1 p2 p3 q0 hb
       rw [← hlen]
       have Hlen := Lib.hid hlen
       have Hfs := Lib.hid hfs
       have hn : fs.length ≤ 9223372036854775807 := by have := hby.out; omega
       clear hlen hfs))
  go_loopw [18] (fun i wr => ∃ k : Nat, k ≤ fs.length ∧ i = .int .i64 k ∧ PartsRel w2 fs k wr) (fun i _ => fs.length - (RowKit.intOf i).toNat)
  case atStart => exact ⟨0, Nat.zero_le _, rfl, Below.refl _ _, by simp⟩
  case round =>
    obtain ⟨k, hk, rfl, hr⟩ := hrel
    by_cases hlk : k < fs.length
    · have d1 : decide ((k : Int) < (fs.length : Int)) = true := decide_eq_true (by omega)
      obtain ⟨g, hf⟩ : ∃ g, fs[k]? = some g := ⟨fs[k], List.getElem?_eq_getElem hlk⟩
      obtain ⟨b, off, had, hbs, hat⟩ := HS.out.at (by show 0 < fs.length; omega)
      obtain ⟨rfl, rfl⟩ : g0 = b ∧ 0 = off := by injection had with had; injection had with h1 h2; exact ⟨h1, h2⟩
      have hI := Lib.hid ((hat k g hf).below hr.below hbs)
      have HG := Lib.hid ((HS.out.fs g (List.mem_of_getElem? hf)).below (hr.below.alloc hr.below.size (.cells #[.string g.name, .int .i64 g.params, .int .i64 g.regs, .slice g.ad g.code.length g.cap] 68)) (Nat.le_refl _))
      have hr1 := Lib.hid (hr.below.alloc hr.below.size (.cells #[.string g.name, .int .i64 g.params, .int .i64 g.regs, .slice g.ad g.code.length g.cap] 68))
      have HC := Lib.hid (Blk.new wr #[.string g.name, .int .i64 g.params, .int .i64 g.regs, .slice g.ad g.code.length g.cap] 68)
      have hf := Lib.hid hf
      have q0 := hI.out.c0
      have q1 := hI.out.c1
      have q2 := hI.out.c2
      have q3 := hI.out.c3
      rw [Nat.zero_add] at q0 q1 q2 q3
      clear hat had
      have hkk : k + 1 ≤ fs.length := hlk
      cases hg : greatF g
      · go_wp2_with (go_at_call 36; refine (great_any g _ HG.out).mono ?_; rintro e w3 ⟨rfl, hb2⟩; have HC := Lib.hid (HC.out.below hb2 HC.out.lt); have s3 := HC.out.cell 3; simp at s3; have hr2 := Lib.hid (below_then hr1.out hr1.out.size hb2); have HG := Lib.hid (HG.out.below hb2 (Nat.le_refl _)); have hb2 := Lib.hid hb2)
        have hgc := HG.out.rows.1
        simp only [List.length_map] at hgc
        generalize wr.heap.size = C at *
        go_loopw [27] (fun i wx => ∃ j : Nat, j ≤ g.code.length ∧ i = .int .i64 j ∧ (g.code.take j).all (fun y => !(y.op == 14)) = true ∧ Below w3.heap.size w3 wx) (fun i _ => g.code.length - (RowKit.intOf i).toNat)
        case atStart => exact ⟨0, Nat.zero_le _, rfl, by simp, Below.refl _ _⟩
        case round =>
          obtain ⟨j, hj, rfl, hna, hx⟩ := hrel
          have hna := Lib.hid hna
          by_cases hjl : j < g.code.length
          · have d2 : decide ((j : Int) < (g.code.length : Int)) = true := decide_eq_true (by omega)
            obtain ⟨x, hfx⟩ : ∃ x, g.code[j]? = some x := ⟨g.code[j], List.getElem?_eq_getElem hjl⟩
            obtain ⟨b2, off2, had2, hbs2, hat2⟩ := HG.out.at (by omega)
            have hI2 := Lib.hid ((hat2 j x hfx).below hx hbs2)
            have had2 := Lib.hid had2
            have hfx := Lib.hid hfx
            have r0 := hI2.out.c0
            have r1 := hI2.out.c1
            have r2 := hI2.out.c2
            have r3 := hI2.out.c3
            have r4 := hI2.out.c4
            have r5 := hI2.out.c5
            have r6 := hI2.out.c6
            have r7 := hI2.out.c7
            have r8 := hI2.out.c8
            rw [had2.out]
            clear hat2
            have hjj : j + 1 ≤ g.code.length := hjl
            have hxa := Lib.hid (hx.alloc hx.size (.cells #[.int .i64 x.op, .int .i64 x.d, .int .i64 x.a, .int .i64 x.b, .int .i64 x.imm, .slice x.ad x.args.length x.cap, .int .i64 x.what, .bool x.vol, .bool x.fin] 71))
            cases d3 : (x.op == 14)
            · go_wp2
              exact ⟨⟨j + 1, hjj, rfl, all_step _ _ _ _ hfx.out hna.out (by rw [d3]; rfl), hxa.out⟩, by simp [RowKit.intOf]; omega⟩
            · go_wp2
              go_ret
              exact ⟨rfl, below_then BW.out (Nat.le_of_lt B2.out.lt) (below_then hr2.out hr2.out.size hxa.out)⟩
          · obtain rfl : j = g.code.length := by omega
            have d2 : decide ((g.code.length : Int) < (g.code.length : Int)) = false := decide_eq_false (by omega)
            go_wp2
            have hna2 := hna.out
            rw [List.take_length] at hna2
            exact ⟨⟨k + 1, hkk, rfl, below_then hr2.out hr2.out.size hx, all_step _ _ _ _ hf.out hr.ok (by rw [okF, hg, hna2]; rfl)⟩, by simp [RowKit.intOf]; omega⟩
      · go_wp2_with (go_at_call 36; refine (great_any g _ HG.out).mono ?_; rintro e w3 ⟨rfl, hb2⟩; have hb2 := Lib.hid hb2)
        go_ret
        exact ⟨rfl, below_then BW.out (Nat.le_of_lt B2.out.lt) (below_then hr1.out hr1.out.size hb2.out)⟩
    · obtain rfl : k = fs.length := by omega
      have d1 : decide ((fs.length : Int) < (fs.length : Int)) = false := decide_eq_false (by omega)
      have hs := hr.ok
      rw [List.take_length] at hs
      have hs := Lib.hid hs
      have B2 := Lib.hid (B2.out.below hr.below B2.out.lt)
      have B3 := Lib.hid (B3.out.below hr.below B3.out.lt)
      have HM := Lib.hid (HM.out.below hr.below (Nat.le_refl _))
      have HF := Lib.hid (HF.out.below hr.below (Nat.le_refl _))
      have BW := Lib.hid (below_next BW.out hr.below)
      clear hr HS hown hg0 hg1 l1 l2
      have hall := List.all_eq_true.1 hs.out
      have hfm : ∀ g ∈ m.funcs, okF g = true := fun g hg => hall g (by rw [Hfs.out]; exact List.mem_cons_of_mem _ hg)
      have hff : okF f = true := hall f (by rw [Hfs.out]; exact List.mem_cons_self)
      have hfm := Lib.hid hfm
      have hff := Lib.hid hff
      clear hall
      have hW := Lib.hid (whole_any m wr HM.out (fun g hg => okF_no (hfm.out g hg)) (fun g hg => okF_sz (hfm.out g hg)))
      have q0 := B2.out.cell 0
      have q1 := B2.out.cell 1
      have p0 := B3.out.cell 0
      have p1 := B3.out.cell 1
      have p2 := B3.out.cell 2
      have p3 := B3.out.cell 3
      simp at q0 q1 p0 p1 p2 p3
      have hfl := HM.out.rows.1
      have htl := HM.out.ths.1
      simp only [List.length_map] at hfl
      cases c1 : decide ((8 : Int) < (m.funcs.length : Int))
      · cases c2 : decide ((20 : Int) < (m.threads.length : Int))
        · cases c3 : wholeF m
          · go_wp2_with (go_at_call 37; refine hW.out.mono ?_; rintro e w3 ⟨rfl, hb3⟩; have hb3 := Lib.hid hb3)
            go_ret
            exact ⟨rfl, below_next BW.out hb3.out⟩
          · go_wp2_with (go_at_call 37; refine hW.out.mono ?_; rintro e w3 ⟨rfl, hb3⟩; have B2 := Lib.hid (B2.out.below hb3 B2.out.lt); have B3 := Lib.hid (B3.out.below hb3 B3.out.lt); have HM := Lib.hid (HM.out.below hb3 (Nat.le_refl _)); have HF := Lib.hid (HF.out.below hb3 (Nat.le_refl _)); have BW := Lib.hid (below_next BW.out hb3); have hb3 := Lib.hid hb3; have q0 := B2.out.cell 0; have q1 := B2.out.cell 1; simp at q0 q1)
            have hst : St w3.heap.size m w3 (w3.alloc (.cells #[.slice m.fad m.funcs.length m.fcap, .slice m.tad m.threads.length m.tcap] 65)) := ⟨(Below.refl w3.heap.size w3).alloc (Nat.le_refl _) _, Blk.new w3 _ _, by simp⟩
            have hst := Lib.hid hst
            have hBN : w.heap.size + 1 < w3.heap.size := B3.out.lt
            have hBN0 : w.heap.size < w3.heap.size := B2.out.lt
            have z0 := Lib.hid (B2.out.cell 0)
            have y0 := Lib.hid (B3.out.cell 0)
            have y1 := Lib.hid (B3.out.cell 1)
            have y2 := Lib.hid (B3.out.cell 2)
            have y3 := Lib.hid (B3.out.cell 3)
            have hsz : (w3.alloc (.cells #[.slice m.fad m.funcs.length m.fcap, .slice m.tad m.threads.length m.tcap] 65)).heap.size = w3.heap.size + 1 := by simp
            have q0 := (B2.out.alloc (.cells #[.slice m.fad m.funcs.length m.fcap, .slice m.tad m.threads.length m.tcap] 65)).cell 0
            have p0 := (B3.out.alloc (.cells #[.slice m.fad m.funcs.length m.fcap, .slice m.tad m.threads.length m.tcap] 65)).cell 0
            have p1 := (B3.out.alloc (.cells #[.slice m.fad m.funcs.length m.fcap, .slice m.tad m.threads.length m.tcap] 65)).cell 1
            have p2 := (B3.out.alloc (.cells #[.slice m.fad m.funcs.length m.fcap, .slice m.tad m.threads.length m.tcap] 65)).cell 2
            have p3 := (B3.out.alloc (.cells #[.slice m.fad m.funcs.length m.fcap, .slice m.tad m.threads.length m.tcap] 65)).cell 3
            have hN3 : w3.heap.size ≤ w3.heap.size := Nat.le_refl _
            have hfin : ∀ X, Below w3.heap.size w3 X → Below w.heap.size w X := fun X hX => below_then BW.out (by omega) hX
            have hfin := Lib.hid hfin
            have HMx : ∀ X, Below w3.heap.size w3 X → m.Ok X := fun X hX => HM.out.below hX (Nat.le_refl _)
            have HFx : ∀ X, Below w3.heap.size w3 X → f.Ok X := fun X hX => HF.out.below hX (Nat.le_refl _)
            have HMx := Lib.hid HMx
            have HFx := Lib.hid HFx
            generalize w3.alloc (.cells #[.slice m.fad m.funcs.length m.fcap, .slice m.tad m.threads.length m.tcap] 65) = W at *
            generalize w3.heap.size = N at *
            generalize hBq : w.heap.size = B at *
            have hBq := Lib.hid hBq
            have E1 : (W.alloc (.cells #[] 68)).drew.ownsRow (N + 1) 68 4 (.slice (some ⟨N + 1, 0, none⟩) 0 0) 0 [] := by
              have h := World.ownsRow_made (base := N + 1) (e := 68) (size := 4) W #[] 0 (by omega) (by decide) rfl
              rw [hsz] at h
              exact h
            have E3 : ((W.alloc (.cells #[.string f.name, .int .i64 f.params, .int .i64 f.regs, .slice f.ad f.code.length f.cap] 68)).alloc (.cells #[] 68)).drew.ownsRow (N + 1) 68 4 (.slice (some ⟨N + 1 + 1, 0, none⟩) 0 0) 0 [] := by
              have h := World.ownsRow_made (base := N + 1) (e := 68) (size := 4) (W.alloc (.cells #[.string f.name, .int .i64 f.params, .int .i64 f.regs, .slice f.ad f.code.length f.cap] 68)) #[] 0 (by simp; omega) (by decide) rfl
              rw [show (W.alloc (.cells #[.string f.name, .int .i64 f.params, .int .i64 f.regs, .slice f.ad f.code.length f.cap] 68)).heap.size = N + 1 + 1 by simp [hsz]] at h
              exact h
            have E2 : ((W.alloc (.cells #[] 68)).alloc (.cells #[.string f.name, .int .i64 f.params, .int .i64 f.regs, .slice f.ad f.code.length f.cap] 68)).drew.ownsRow (N + 1) 68 4 (.slice (some ⟨N + 1, 0, none⟩) 0 0) 0 [] := (show (W.alloc (.cells #[] 68)).ownsRow _ _ _ _ _ _ from E1).alloc _
            have F2 : Blk ((W.alloc (.cells #[] 68)).alloc (.cells #[.string f.name, .int .i64 f.params, .int .i64 f.regs, .slice f.ad f.code.length f.cap] 68)).drew (N + 1 + 1) #[.string f.name, .int .i64 f.params, .int .i64 f.regs, .slice f.ad f.code.length f.cap] 68 := by
              have h := Blk.new (W.alloc (.cells #[] 68)) #[.string f.name, .int .i64 f.params, .int .i64 f.regs, .slice f.ad f.code.length f.cap] 68
              rw [show (W.alloc (.cells #[] 68)).heap.size = N + 1 + 1 by simp [hsz]] at h
              exact h
            have F3 : Blk ((W.alloc (.cells #[.string f.name, .int .i64 f.params, .int .i64 f.regs, .slice f.ad f.code.length f.cap] 68)).alloc (.cells #[] 68)).drew (N + 1) #[.string f.name, .int .i64 f.params, .int .i64 f.regs, .slice f.ad f.code.length f.cap] 68 := by
              have h := (Blk.new W #[.string f.name, .int .i64 f.params, .int .i64 f.regs, .slice f.ad f.code.length f.cap] 68).alloc (.cells #[] 68)
              rw [hsz] at h
              exact h
            have S1 := Lib.hid (hst.out.alloc (.cells #[] 68)).drew
            have S2 := Lib.hid ((hst.out.alloc (.cells #[] 68)).alloc (.cells #[.string f.name, .int .i64 f.params, .int .i64 f.regs, .slice f.ad f.code.length f.cap] 68)).drew
            have S3 := Lib.hid ((hst.out.alloc (.cells #[.string f.name, .int .i64 f.params, .int .i64 f.regs, .slice f.ad f.code.length f.cap] 68)).alloc (.cells #[] 68)).drew
            have G1 := Lib.hid E1
            have G2 := Lib.hid E2
            have G3 := Lib.hid E3
            have J2 := Lib.hid F2
            have J3 := Lib.hid F3
            clear E1 E2 E3 F2 F3
            have hb0 : (0 + m.funcs.length) * 56 ≤ 140737488355328 := by have := hby.out; omega
            have hb1 : (0 + m.funcs.length + 1) * 56 ≤ 140737488355328 := by have := hby.out; omega
            have hb0 := Lib.hid hb0
            have hb1 := Lib.hid hb1
            simp at q0 p0 p1 p2 p3
            clear q1
            have ne0 : ¬ B = N := by omega
            have ne1 : ¬ N = B := by omega
            have ne2 : ¬ B + 1 = N := by omega
            have ne3 : ¬ N = B + 1 := by omega
            go_region_held3 (fun X => X.cell? ⟨B, 0, none⟩ = some (.slice m.fad m.funcs.length m.fcap) ∧ X.cell? ⟨B + 1, 0, none⟩ = some (.string f.name) ∧ X.cell? ⟨B + 1, 1, none⟩ = some (.int .i64 f.params) ∧ X.cell? ⟨B + 1, 2, none⟩ = some (.int .i64 f.regs) ∧ X.cell? ⟨B + 1, 3, none⟩ = some (.slice f.ad f.code.length f.cap))
              (go_keep)
              (first
                | (refine step_app_rows (by rfl) (.tmp 52) (.tmp 54) 63 (by rfl) (N + 1) 68 _ 4 56 Tryd.underlying63 info68 rfl (by decide) (by decide) _ 0 [] (by rfl) G1.out m.fad m.funcs.length m.fcap (m.funcs.map FuncD.enc) (by rfl) (HMx.out _ S1.out.bel).rows (by simp) (encs_len _) (encs_one _) hnil.out hb0.out S1.out.big ?_; intro v5 w5 own5 hg5; have st5 := Lib.hid (S1.out.grown hg5 (own_row_ge G1.out)); have k0 := (st5.out.bel.cell (p := ⟨B, 0, none⟩) hBN0).trans z0.out; have k1 := (st5.out.bel.cell (p := ⟨B + 1, 0, none⟩) hBN).trans y0.out; have k2 := (st5.out.bel.cell (p := ⟨B + 1, 1, none⟩) hBN).trans y1.out; have k3 := (st5.out.bel.cell (p := ⟨B + 1, 2, none⟩) hBN).trans y2.out; have k4 := (st5.out.bel.cell (p := ⟨B + 1, 3, none⟩) hBN).trans y3.out; simp at k0 k1 k2 k3 k4; have own5 := Lib.hid own5; clear hg5)
                | (refine step_app_rows (by rfl) (.tmp 52) (.tmp 54) 63 (by rfl) (N + 1) 68 _ 4 56 Tryd.underlying63 info68 rfl (by decide) (by decide) _ 0 [] (by rfl) G2.out m.fad m.funcs.length m.fcap (m.funcs.map FuncD.enc) (by rfl) (HMx.out _ S2.out.bel).rows (by simp) (encs_len _) (encs_one _) hnil.out hb0.out S2.out.big ?_; intro v5 w5 own5 hg5; have st5 := Lib.hid (S2.out.grown hg5 (own_row_ge G2.out)); have k0 := (st5.out.bel.cell (p := ⟨B, 0, none⟩) hBN0).trans z0.out; have k1 := (st5.out.bel.cell (p := ⟨B + 1, 0, none⟩) hBN).trans y0.out; have k2 := (st5.out.bel.cell (p := ⟨B + 1, 1, none⟩) hBN).trans y1.out; have k3 := (st5.out.bel.cell (p := ⟨B + 1, 2, none⟩) hBN).trans y2.out; have k4 := (st5.out.bel.cell (p := ⟨B + 1, 3, none⟩) hBN).trans y3.out; simp at k0 k1 k2 k3 k4; have F5 := Lib.hid ((hg5.block _ J2.out.lt (by simp [Value.ownBlock])).trans J2.out); have own5 := Lib.hid own5; clear hg5)
                | (refine step_app_rows (by rfl) (.tmp 52) (.tmp 54) 63 (by rfl) (N + 1) 68 _ 4 56 Tryd.underlying63 info68 rfl (by decide) (by decide) _ 0 [] (by rfl) G3.out m.fad m.funcs.length m.fcap (m.funcs.map FuncD.enc) (by rfl) (HMx.out _ S3.out.bel).rows (by simp) (encs_len _) (encs_one _) hnil.out hb0.out S3.out.big ?_; intro v5 w5 own5 hg5; have st5 := Lib.hid (S3.out.grown hg5 (own_row_ge G3.out)); have k0 := (st5.out.bel.cell (p := ⟨B, 0, none⟩) hBN0).trans z0.out; have k1 := (st5.out.bel.cell (p := ⟨B + 1, 0, none⟩) hBN).trans y0.out; have k2 := (st5.out.bel.cell (p := ⟨B + 1, 1, none⟩) hBN).trans y1.out; have k3 := (st5.out.bel.cell (p := ⟨B + 1, 2, none⟩) hBN).trans y2.out; have k4 := (st5.out.bel.cell (p := ⟨B + 1, 3, none⟩) hBN).trans y3.out; simp at k0 k1 k2 k3 k4; have F5 := Lib.hid ((hg5.block _ J3.out.lt (by simp [Value.ownBlock])).trans J3.out); have own5 := Lib.hid own5; clear hg5)
                | (refine step_app_rows (by rfl) (.tmp 55) (.tmp 57) 63 (by rfl) (N + 1) 68 _ 4 56 Tryd.underlying63 info68 rfl (by decide) (by decide) _ (0 + m.funcs.length) _ (by rfl) (own5.out.alloc (.cells #[.string f.name, .int .i64 f.params, .int .i64 f.regs, .slice f.ad f.code.length f.cap] 68)) (some ⟨w5.heap.size, 0, none⟩) 1 1 [f.enc] (by rfl) (rows_one (Blk.new w5 #[.string f.name, .int .i64 f.params, .int .i64 f.regs, .slice f.ad f.code.length f.cap] 68)) rfl (encs_len [f]) (encs_one [f]) (by simp) hb1.out (st5.out.alloc (.cells #[.string f.name, .int .i64 f.params, .int .i64 f.regs, .slice f.ad f.code.length f.cap] 68)).big ?_; intro v6 w6 own6 hg6; have st6 := Lib.hid ((st5.out.alloc (.cells #[.string f.name, .int .i64 f.params, .int .i64 f.regs, .slice f.ad f.code.length f.cap] 68)).grown hg6 (own_row_ge (own5.out.alloc (.cells #[.string f.name, .int .i64 f.params, .int .i64 f.regs, .slice f.ad f.code.length f.cap] 68)))); have k0 := (st6.out.bel.cell (p := ⟨B, 0, none⟩) hBN0).trans z0.out; have k1 := (st6.out.bel.cell (p := ⟨B + 1, 0, none⟩) hBN).trans y0.out; have k2 := (st6.out.bel.cell (p := ⟨B + 1, 1, none⟩) hBN).trans y1.out; have k3 := (st6.out.bel.cell (p := ⟨B + 1, 2, none⟩) hBN).trans y2.out; have k4 := (st6.out.bel.cell (p := ⟨B + 1, 3, none⟩) hBN).trans y3.out; simp at k0 k1 k2 k3 k4; have n6 := st6.out.bn.cell 0; have nf6 := st6.out.bn.free 0; simp at n6; obtain ⟨g6, cap6, rfl, gb6, gl6, rows6⟩ := rows_own (parts_rows m f own6) (by simp) (by omega) (encs_len _); have gb6 := Lib.hid gb6; have gl6 := Lib.hid gl6; have rows6 := Lib.hid rows6; have own6 := Lib.hid own6; clear hg6)
                | (refine step_app_rows (by rfl) (.tmp 55) (.tmp 57) 63 (by rfl) (N + 1) 68 _ 4 56 Tryd.underlying63 info68 rfl (by decide) (by decide) _ (0 + m.funcs.length) _ (by rfl) own5.out (some ⟨_, 0, none⟩) 1 1 [f.enc] (by rfl) (rows_one F5.out) rfl (encs_len [f]) (encs_one [f]) (by simp) hb1.out st5.out.big ?_; intro v6 w6 own6 hg6; have st6 := Lib.hid (st5.out.grown hg6 (own_row_ge own5.out)); have k0 := (st6.out.bel.cell (p := ⟨B, 0, none⟩) hBN0).trans z0.out; have k1 := (st6.out.bel.cell (p := ⟨B + 1, 0, none⟩) hBN).trans y0.out; have k2 := (st6.out.bel.cell (p := ⟨B + 1, 1, none⟩) hBN).trans y1.out; have k3 := (st6.out.bel.cell (p := ⟨B + 1, 2, none⟩) hBN).trans y2.out; have k4 := (st6.out.bel.cell (p := ⟨B + 1, 3, none⟩) hBN).trans y3.out; simp at k0 k1 k2 k3 k4; have n6 := st6.out.bn.cell 0; have nf6 := st6.out.bn.free 0; simp at n6; obtain ⟨g6, cap6, rfl, gb6, gl6, rows6⟩ := rows_own (parts_rows m f own6) (by simp) (by omega) (encs_len _); have gb6 := Lib.hid gb6; have gl6 := Lib.hid gl6; have rows6 := Lib.hid rows6; have own6 := Lib.hid own6; clear hg6))
            all_goals
              have BX := Lib.hid (st6.out.bel.setCell (p := ⟨N, 0, none⟩) (Nat.le_refl _) (.slice (some ⟨g6, 0, none⟩) (m.funcs.length + 1) cap6))
              have BnX := Lib.hid (st6.out.bn.set 0 (.slice (some ⟨g6, 0, none⟩) (m.funcs.length + 1) cap6))
              have rowsX := Lib.hid (rows_set rows6.out ⟨N, 0, none⟩ (.slice (some ⟨g6, 0, none⟩) (m.funcs.length + 1) cap6) (by show N ≠ g6; have := gb6.out; omega))
              clear k0 k1 k2 k3 k4 nf6 n6 q0 p0 p1 p2 p3 st6 rows6 own6 gl6 own5 st5 S1 S2 S3 G1 G2 G3 J2 J3
              generalize w6.setCell ⟨N, 0, none⟩ (.slice (some ⟨g6, 0, none⟩) (m.funcs.length + 1) cap6) = X at *
              have HM2 := HMx.out X BX.out
              have H2 : ModD.Ok ⟨some ⟨g6, 0, none⟩, cap6, m.funcs ++ [f], m.tad, m.tcap, m.threads⟩ X := ⟨rowsX.out, fun g hg => by
                rcases List.mem_append.1 hg with h | h
                · exact HM2.fs g h
                · obtain rfl := List.mem_singleton.1 h
                  exact HFx.out X BX.out, HM2.ths⟩
              have hW2 : ∀ G : GW X, Calls Tryd.prog 37 #[.agg #[.slice (some ⟨g6, 0, none⟩) (m.funcs.length + 1) cap6, .slice m.tad m.threads.length m.tcap]] G.W fun e w' => e = .returned (.bool (irGoodF f)) ∧ Below G.W.heap.size G.W w' := by
                intro G
                have h := whole_any ⟨some ⟨g6, 0, none⟩, cap6, m.funcs ++ [f], m.tad, m.tcap, m.threads⟩ G.W (H2.below G.h (Nat.le_refl _)) (fun g hg => by
                    rcases List.mem_append.1 hg with h | h
                    · exact okF_no (hfm.out g h)
                    · obtain rfl := List.mem_singleton.1 h
                      exact okF_no hff.out) (fun g hg => by
                    rcases List.mem_append.1 hg with h | h
                    · exact okF_sz (hfm.out g h)
                    · obtain rfl := List.mem_singleton.1 h
                      exact okF_sz hff.out)
                rw [parts_law m f _ _ c3] at h
                have hl : (m.funcs ++ [f]).length = m.funcs.length + 1 := by simp
                simp only [hl] at h
                exact h
              have hG2 : ∀ G : GW X, Calls Tryd.prog 38 #[.agg #[.string f.name, .int .i64 f.params, .int .i64 f.regs, .slice f.ad f.code.length f.cap]] G.W fun e w' => e = .returned (.bool (irGoodF f)) ∧ Below G.W.heap.size G.W w' := fun G => irGood_any f G.W ((HFx.out X BX.out).below G.h (Nat.le_refl _)) (okF_sz hff.out)
              have hW2 := Lib.hid hW2
              have hG2 := Lib.hid hG2
              have BF := Lib.hid (B3.out.below BX.out hBN)
              have n0 := BnX.out.cell 0
              have n1 := BnX.out.cell 1
              have p0 := BF.out.cell 0
              have p1 := BF.out.cell 1
              have p2 := BF.out.cell 2
              have p3 := BF.out.cell 3
              simp at n0 n1 p0 p1 p2 p3
              have n0 := fun G : GW X => gw_cell n0 G
              have n1 := fun G : GW X => gw_cell n1 G
              have p0 := fun G : GW X => gw_cell p0 G
              have p1 := fun G : GW X => gw_cell p1 G
              have p2 := fun G : GW X => gw_cell p2 G
              have p3 := fun G : GW X => gw_cell p3 G
              go_wp2
              refine wp_region_gw_lit (by kernel_rfl) (by kernel_rfl) ?_
              repeat (go_big_quiet_step ((first | (go_at_call 37; exact gw_call (hW2.out _)) | (go_at_call 38; exact gw_call (hG2.out _)))))
              refine wpQuiet_nil ?_
              rintro _ ⟨G, rfl⟩
              go_wp2
              go_ret
              rw [hBq.out]
              exact ⟨ret_bool (by simp), below_then (hfin.out _ BX.out) (by have := BF.out.lt; omega) G.h⟩
        · go_wp2
          go_ret
          exact ⟨rfl, BW.out⟩
      · go_wp2
        go_ret
        exact ⟨rfl, BW.out⟩
end Go.Proofs.YtpbffmkdchiajaaDoor

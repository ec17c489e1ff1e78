/-
  Appending a row of structs that came in (nil or not) to a row of the call's own.
-/
import Derived.Test.YtpbffmkdchiajaaDoorIr11
import Derived.Test.YtpbffmkdchiajaaDoorIr12
import Derived.Laws.AppendOwnNone
namespace Go.Proofs.YtpbffmkdchiajaaDoor
open Go.RowKit Go.Shelf Go.Lib
theorem flat_get (k : Nat) : ∀ (rows : List (List Value)) (_ : ∀ r ∈ rows, r.length = k) (j i : Nat) (v : Value), (rows.getD j [])[i]? = some v → rows.flatten[j * k + i]? = some v
  | [], _, j, i, v, h => by simp [List.getD] at h
  | r :: rs, hk, 0, i, v, h => by
    have hi : (r : List Value)[i]? = some v := by simpa [List.getD] using h
    have hl : i < r.length := (List.getElem?_eq_some_iff.1 hi).1
    rw [List.flatten_cons, Nat.zero_mul, Nat.zero_add, List.getElem?_append_left hl, hi]
  | r :: rs, hk, j + 1, i, v, h => by
    have hr := hk r (by simp)
    rw [List.flatten_cons, List.getElem?_append_right (by rw [hr, Nat.add_mul]; omega)]
    have e : (j + 1) * k + i - r.length = j * k + i := by rw [hr, Nat.add_mul]; omega
    rw [e]
    exact flat_get k rs (fun x hx => hk x (by simp [hx])) j i v (by simpa [List.getD] using h)
theorem flat_len (k : Nat) : ∀ (rows : List (List Value)) (_ : ∀ r ∈ rows, r.length = k), rows.flatten.length = rows.length * k
  | [], _ => by simp
  | r :: rs, hk => by rw [List.flatten_cons, List.length_append, hk r (by simp), flat_len k rs (fun x hx => hk x (by simp [hx])), List.length_cons, Nat.add_mul]; omega
theorem flat_inv (k : Nat) (hk0 : 0 < k) (rows : List (List Value)) (hk : ∀ r ∈ rows, r.length = k) (j : Nat) (u : Value) (h : rows.flatten[j]? = some u) : j / k < rows.length ∧ (rows.getD (j / k) [])[j % k]? = some u := by
  have hl := (List.getElem?_eq_some_iff.1 h).1
  rw [flat_len k rows hk] at hl
  have hj : j / k < rows.length := (Nat.div_lt_iff_lt_mul hk0).2 hl
  refine ⟨hj, ?_⟩
  have hm : j % k < k := Nat.mod_lt _ hk0
  have hrl : (rows.getD (j / k) []).length = k := hk _ (by simp [List.getD, hj])
  have hg : (rows.getD (j / k) [])[j % k]? = some (rows.getD (j / k) [])[j % k] := List.getElem?_eq_getElem (by omega)
  have := flat_get k rows hk (j / k) (j % k) _ hg
  rw [Nat.mul_comm, Nat.div_add_mod, h] at this
  rw [hg]
  exact this.symm
theorem addr_add (b off j : Nat) : (⟨b, off, none⟩ : Addr).add j = ⟨b, off + j, none⟩ := by unfold Addr.add; split <;> simp_all
theorem rows_own {w : World} {base n k : Nat} {e : TypeId} {v : Value} {rows : List (List Value)} (own : w.ownsRow base e k v n rows.flatten) (hn : rows.length = n) (h0 : 0 < n) (hk : ∀ r ∈ rows, r.length = k) :
    ∃ g cap, v = .slice (some ⟨g, 0, none⟩) n cap ∧ base ≤ g ∧ g < w.heap.size ∧ RowsOk w (some ⟨g, 0, none⟩) k rows := by
  have own2 := own
  rcases own.2 with ⟨_, h⟩ | ⟨g, cap, cur, rfl, hg, hh, hle, hcap, hsz, htk⟩
  · omega
  · have hlt : g < w.heap.size := (Array.getElem?_eq_some_iff.1 hh).1
    unfold maxLen at hcap
    refine ⟨g, cap, rfl, hg, hlt, by omega, fun _ => ⟨g, 0, rfl, hlt, fun j hj i u hu => ?_⟩⟩
    have h1 := flat_get k rows hk j i u hu
    have h2 := own2.cells (g := g) rfl _ _ h1
    rw [addr_add] at h2
    rw [← h2]
    congr 2
    omega
theorem run_app_rows {P : Program} (w : World) (base : Nat) (t ty e : TypeId) (i : TypeInfo) (z : Value) (size bytes : Nat) (ht : P.underlying t = some (.slice e)) (hi : P.info? e = some i) (hz : i.zero = some z)
    (hsize : i.size = size) (hby : i.bytes = bytes) (hzs : z.cells.size = size) (hsz : 0 < size) (hb0 : 0 < bytes)
    (v : Value) (n : Nat) (xs : List Value) (hown : w.ownsRow base e size v n xs)
    (ad : Option Addr) (m c : Nat) (rows : List (List Value)) (hr : RowsOk w ad size rows) (hm : rows.length = m) (hk : ∀ r ∈ rows, r.length = size) (h1 : ∀ r ∈ rows, ∀ u ∈ r, u.oneCell' = true) (hnil : ad = none → c = 0)
    (hbytes : (n + m) * bytes ≤ 140737488355328) (hbase : base ≤ w.heap.size) :
    ∃ v' w', (Builtin.append_ #[t, t] ty #[v, .slice ad m c]).run P w = .ok v' w' ∧ w'.ownsRow base e size v' (n + m) (xs ++ rows.flatten) ∧ w.grownBy w' v.ownBlock := by
  have hnm : n + m ≤ 140737488355328 := Nat.le_trans (Nat.le_mul_of_pos_right _ hb0) hbytes
  cases ad with
  | none =>
    obtain rfl := hnil rfl
    have hm0 : m = 0 := by
      rcases Nat.eq_zero_or_pos m with h | h
      · exact h
      · obtain ⟨_, _, h, _⟩ := hr.2 (by omega)
        cases h
    subst hm0
    obtain rfl : rows = [] := List.eq_nil_of_length_eq_zero hm
    refine ⟨v, w, run_append_owned_none (P := P) (w := w) base t ty e i size ht hi v n xs hown, by simpa using hown, ⟨rfl, rfl, rfl, Nat.le_refl _, fun _ _ _ => rfl⟩⟩
  | some a =>
    obtain ⟨v', w', hrun, ho, hg, _, _⟩ := run_append_own_at (P := P) w base t ty e i z size bytes ht hi hz hsize hby hzs hsz v n xs hown a m c rows.flatten
      (by rw [flat_len size rows hk, hm]) (fun j u hu => by
        obtain ⟨hj, hju⟩ := flat_inv size hsz rows hk j u hu
        obtain ⟨b, off, he, _, hc⟩ := hr.2 (Nat.lt_of_le_of_lt (Nat.zero_le _) hj)
        obtain rfl := Option.some.inj he
        have := hc _ hj _ _ hju
        rw [addr_add, ← this]
        congr 2
        rw [Nat.add_assoc, Nat.mul_comm, Nat.div_add_mod]) (fun u hu => by
        obtain ⟨r, hr1, hr2⟩ := List.mem_flatten.1 hu
        exact h1 r hr1 u hr2) (by simp only [maxLen]; omega) hbytes hbase
    exact ⟨v', w', hrun, ho, hg⟩
section
variable {P : Program} {ops : Array Oper} {rest : List Oper} {o : Oper} {a : Act} {Q : Exit → Act → World → Prop} {w : World}
theorem app_rows (hgd : o.guard = none) (s x : Operand) (t : TypeId) (ho : o.op = .call { callee := .builtin .append, args := #[s, x], argTypes := #[t, t] })
    (base : Nat) (e : TypeId) (z : Value) (size bytes : Nat) (ht : P.underlying t = some (.slice e)) (hinfo : (P.info? e).map (fun i => (i.zero, i.size, i.bytes)) = some (some z, size, bytes)) (hzs : z.cells.size = size) (hsz : 0 < size) (hb0 : 0 < bytes)
    (v : Value) (n : Nat) (xs : List Value) (hs : a.eval s = v) (hown : w.ownsRow base e size v n xs)
    (ad : Option Addr) (m c : Nat) (rows : List (List Value)) (hx : a.eval x = .slice ad m c) (hr : RowsOk w ad size rows) (hm : rows.length = m) (hk : ∀ r ∈ rows, r.length = size) (h1 : ∀ r ∈ rows, ∀ u ∈ r, u.oneCell' = true) (hnil : ad = none → c = 0)
    (hbytes : (n + m) * bytes ≤ 140737488355328) (hbase : base ≤ w.heap.size)
    (h : ∀ v' w', w'.ownsRow base e size v' (n + m) (xs ++ rows.flatten) → w.grownBy w' v.ownBlock → wpList P ops Q rest (a.put o.dst v') w') :
    wpList P ops Q (o :: rest) a w := by
  obtain ⟨i, hi, hzz⟩ := Option.map_eq_some_iff.1 hinfo
  simp only [Prod.mk.injEq] at hzz
  obtain ⟨hz0, hz1, hz2⟩ := hzz
  refine wpList_plain hgd fun K hK => ?_
  obtain ⟨v', w', hrun, h2, h3⟩ := run_app_rows (P := P) w base t o.type e i z size bytes ht hi hz0 hz1 hz2 hzs hsz hb0 v n xs hown ad m c rows hr hm hk h1 hnil hbytes hbase
  unfold Oper.wp execOp
  simp only [ho, resolve, invoke, builtin, Sem.run_bind, Sem.run_pure, Result.andThen_ok, List.map_toArray, List.map_cons, List.map_nil, hs, hx, hrun]
  exact hK _ _ (h v' w' h2 h3)
theorem step_app_rows {K : Act → World → Prop} {E : Prop} (hgd : o.guard = none) (s x : Operand) (t : TypeId) (ho : o.op = .call { callee := .builtin .append, args := #[s, x], argTypes := #[t, t] })
    (base : Nat) (e : TypeId) (z : Value) (size bytes : Nat) (ht : P.underlying t = some (.slice e)) (hinfo : (P.info? e).map (fun i => (i.zero, i.size, i.bytes)) = some (some z, size, bytes)) (hzs : z.cells.size = size) (hsz : 0 < size) (hb0 : 0 < bytes)
    (v : Value) (n : Nat) (xs : List Value) (hs : a.eval s = v) (hown : w.ownsRow base e size v n xs)
    (ad : Option Addr) (m c : Nat) (rows : List (List Value)) (hx : a.eval x = .slice ad m c) (hr : RowsOk w ad size rows) (hm : rows.length = m) (hk : ∀ r ∈ rows, r.length = size) (h1 : ∀ r ∈ rows, ∀ u ∈ r, u.oneCell' = true) (hnil : ad = none → c = 0)
    (hbytes : (n + m) * bytes ≤ 140737488355328) (hbase : base ≤ w.heap.size)
    (h : ∀ v' w', w'.ownsRow base e size v' (n + m) (xs ++ rows.flatten) → w.grownBy w' v.ownBlock → K (a.put o.dst v') w') :
    if Region.wanted o (yielded ops a.tmps) = true then Oper.wp P o a w K Q else E := by
  have hw : Region.wanted o (yielded ops a.tmps) = true := by simp [Region.wanted, hgd]
  rw [if_pos hw]
  obtain ⟨i, hi, hzz⟩ := Option.map_eq_some_iff.1 hinfo
  simp only [Prod.mk.injEq] at hzz
  obtain ⟨hz0, hz1, hz2⟩ := hzz
  obtain ⟨v', w', hrun, h2, h3⟩ := run_app_rows (P := P) w base t o.type e i z size bytes ht hi hz0 hz1 hz2 hzs hsz hb0 v n xs hown ad m c rows hr hm hk h1 hnil hbytes hbase
  unfold Oper.wp execOp
  simp only [ho, resolve, invoke, builtin, Sem.run_bind, Sem.run_pure, Result.andThen_ok, List.map_toArray, List.map_cons, List.map_nil, hs, hx, hrun]
  exact h v' w' h2 h3
end
end Go.Proofs.YtpbffmkdchiajaaDoor

/- append of a slice of rows onto a slice that the call owns, whatever the source. -/
import Derived.Test.YtcdcmohccbhchaaGreatDoorOwn
import Derived.Maps.AppendAt
namespace Go.Proofs.YtcdcmohccbhchaaGreatDoor
open Go.RowKit

theorem owns_slice {w : World} {base : Nat} {e : TypeId} {size : Nat} {v : Value} {n : Nat} {xs : List Value} (h : w.ownsRow base e size v n xs) : ∃ a c, v = .slice a n c ∧ (a = none → n = 0 ∧ c = 0) := by
  rcases h.2 with ⟨h0, h1⟩ | ⟨g, cap, _, h0, _⟩
  · exact ⟨none, 0, by rw [h0, h1], fun _ => ⟨h1, rfl⟩⟩
  · exact ⟨_, cap, h0, fun h => by cases h⟩
theorem run_append_sl {P : Program} (w : World) (base : Nat) (t ty e : TypeId) (i : TypeInfo) (z : Value) (size bytes : Nat) (ht : P.underlying t = some (.slice e)) (hi : P.info? e = some i) (hz : i.zero = some z) (hsize : i.size = size) (hby : i.bytes = bytes) (hzs : z.cells.size = size) (hsz : 0 < size)
    (v : Value) (n : Nat) (xs : List Value) (hown : w.ownsRow base e size v n xs) (s : Value) (rows : List (List Value)) (hs : SlAt w s size rows) (hr : ∀ r ∈ rows, r.length = size) (h1 : ∀ r ∈ rows, oneB r = true) (h63 : n + rows.length ≤ 1000000) (hb : bytes ≤ 1000) (hbase : base ≤ w.heap.size) :
    ∃ a c w', (Builtin.append_ #[t, t] ty #[v, s]).run P w = .ok (.slice a (n + rows.length) c) w' ∧ w'.ownsRow base e size (.slice a (n + rows.length) c) (n + rows.length) (xs ++ rows.flatten) ∧ w.grownBy w' v.ownBlock ∧ ((Value.slice a (n + rows.length) c).ownBlock = v.ownBlock ∨ (Value.slice a (n + rows.length) c).ownBlock = some w.heap.size) := by
  obtain ⟨a, cap, rfl, hc, hj⟩ := hs
  have hbytes : (n + rows.length) * bytes ≤ 140737488355328 := Nat.le_trans (Nat.mul_le_mul h63 hb) (by decide)
  rcases a with _ | ad
  · have hl0 : rows = [] := by
      rcases Nat.eq_zero_or_pos rows.length with h | h
      · exact List.length_eq_zero_iff.1 h
      · obtain ⟨b, k, h, _⟩ := hj 0 h; cases h
    subst hl0
    obtain ⟨a', c', hv, _⟩ := owns_slice hown
    refine ⟨a', c', w, ?_, by simpa [hv] using hown, ⟨rfl, rfl, rfl, Nat.le_refl _, fun _ _ _ => rfl⟩, .inl (by rw [hv]; cases a' <;> rfl)⟩
    rcases hown.2 with ⟨rfl, rfl⟩ | ⟨g, cap, cur, rfl, _, _, hnc, _⟩
    · injection hv with e1 e2 e3
      subst e1; subst e3
      simp [Builtin.append_, run_underlying ht, sizeOf, typeInfo, hi, Builtin.lenOf, Builtin.firstCells]
    · injection hv with e1 e2 e3
      subst e1; subst e3
      simp [Builtin.append_, run_underlying ht, sizeOf, typeInfo, hi, Builtin.lenOf, Builtin.firstCells, hnc, storeCells]
  · have hcells : ∀ j u, rows.flatten[j]? = some u → w.cell? (ad.add j) = some u := by
      intro j u hu
      have h0 : 0 < rows.length := by
        rcases Nat.eq_zero_or_pos rows.length with h | h
        · rw [List.length_eq_zero_iff.1 h] at hu; simp at hu
        · exact h
      obtain ⟨b, k, hb, hlt, hall⟩ := slAt_block h0 hj
      injection hb with hb
      subst hb
      exact SlAt.cells hr hall j u hu
    obtain ⟨v', w', hr1, hr2, hr3, _, hr5⟩ := run_append_own_at (P := P) w base t ty e i z size bytes ht hi hz hsize hby hzs hsz v n xs hown ad rows.length cap rows.flatten (flat_len hr) hcells (flat_one h1) (by unfold maxLen; omega) hbytes hbase
    obtain ⟨a', c', rfl, _⟩ := owns_slice hr2
    exact ⟨a', c', w', hr1, hr2, hr3, hr5⟩
theorem wpList_append_sl {P : Program} (w : World) {ops : Array Oper} {rest : List Oper} {o : Oper} {a : Act} {Q : Exit → Act → World → Prop} (hgd : o.guard = none) (s x : Operand) (t : TypeId)
    (ho : o.op = .call { callee := .builtin .append, args := #[s, x], argTypes := #[t, t] })
    (base : Nat) (e : TypeId) (i : TypeInfo) (z : Value) (size bytes : Nat) (ht : P.underlying t = some (.slice e)) (hi : P.info? e = some i) (hz : i.zero = some z) (hsize : i.size = size) (hby : i.bytes = bytes) (hzs : z.cells.size = size) (hsz : 0 < size)
    (v : Value) (n : Nat) (xs : List Value) (hs : a.eval s = v) (hown : w.ownsRow base e size v n xs) (sv : Value) (rows : List (List Value)) (hx : a.eval x = sv) (hsl : SlAt w sv size rows) (hr : ∀ r ∈ rows, r.length = size) (h1 : ∀ r ∈ rows, oneB r = true) (h63 : n + rows.length ≤ 1000000) (hb : bytes ≤ 1000) (hbase : base ≤ w.heap.size)
    (h : ∀ a' c' w', w'.ownsRow base e size (.slice a' (n + rows.length) c') (n + rows.length) (xs ++ rows.flatten) → w.grownBy w' v.ownBlock → ((Value.slice a' (n + rows.length) c').ownBlock = v.ownBlock ∨ (Value.slice a' (n + rows.length) c').ownBlock = some w.heap.size) → wpList P ops Q rest (a.put o.dst (.slice a' (n + rows.length) c')) w') :
    wpList P ops Q (o :: rest) a w := by
  refine wpList_plain hgd fun K hK => ?_
  obtain ⟨a', c', w', hrun, h2, h3, h4⟩ := run_append_sl (P := P) w base t o.type e i z size bytes ht hi hz hsize hby hzs hsz v n xs hown sv rows hsl hr h1 h63 hb hbase
  unfold Oper.wp execOp
  simp only [ho, resolve, invoke, builtin, Sem.run_bind, Sem.run_pure, Result.andThen_ok, List.map_toArray, List.map_cons, List.map_nil, hs, hx, hrun]
  exact hK _ _ (h a' c' w' h2 h3 h4)
/-- The beginning of a slice. -/
theorem SlAt.take {w : World} {a : Option Addr} {n c size : Nat} {rows : List (List Value)} (h : SlAt w (.slice a n c) size rows) (k : Nat) (hk : k ≤ rows.length) : SlAt w (.slice a k c) size (rows.take k) := by
  obtain ⟨a', cap, hv, hc, hj⟩ := h
  injection hv with e1 e2 e3
  subst e1; subst e3
  have hl : (rows.take k).length = k := by rw [List.length_take]; omega
  refine ⟨a, c, by rw [hl], by rw [hl]; omega, fun j hlt => ?_⟩
  rw [hl] at hlt
  obtain ⟨b, o, ha, hb, h1, h2⟩ := hj j (by omega)
  exact ⟨b, o, ha, hb, h1, by rw [h2, List.getElem_take]⟩
/-- The rest of a slice. -/
theorem SlAt.drop {w : World} {b o n c size : Nat} {rows : List (List Value)} (h : SlAt w (.slice (some ⟨b, o, none⟩) n c) size rows) (k : Nat) (hk : k ≤ rows.length) (c' : Nat) (hc' : rows.length - k ≤ c') : SlAt w (.slice (some ⟨b, o + k * size, none⟩) (n - k) c') size (rows.drop k) := by
  obtain ⟨a', cap, hv, hc, hj⟩ := h
  injection hv with e1 e2 e3
  subst e1; subst e2
  have hl : (rows.drop k).length = rows.length - k := List.length_drop
  refine ⟨_, c', by rw [hl], by rw [hl]; exact hc', fun j hlt => ?_⟩
  rw [hl] at hlt
  obtain ⟨b', o', ha, hb, h1, h2⟩ := hj (k + j) (by omega)
  injection ha with ha
  injection ha with e1 e2
  subst e1; subst e2
  refine ⟨b, o + k * size, rfl, hb, ?_, ?_⟩
  · rw [Nat.add_assoc, ← Nat.add_mul]; exact h1
  · rw [Nat.add_assoc, ← Nat.add_mul, h2, List.getElem_drop]
theorem slAt_none (w : World) (a : Option Addr) (c size : Nat) : SlAt w (.slice a 0 c) size [] := ⟨a, c, rfl, Nat.zero_le _, fun j hj => by simp at hj⟩
end Go.Proofs.YtcdcmohccbhchaaGreatDoor

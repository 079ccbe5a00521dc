/- Slices of rows that a call owns, as slices of rows; slices.Clone at authors. -/
import Derived.Test.YtcdcmohccbhchaaGreatDoorAuts
import Derived.OwnWalk
import Derived.Laws.AppendOwnNone
namespace Go.Proofs.YtcdcmohccbhchaaGreatDoor
open Go.RowKit

theorem flat_len {rows : List (List Value)} {size : Nat} (h : ∀ r ∈ rows, r.length = size) : rows.flatten.length = rows.length * size := by
  induction rows with
  | nil => simp
  | cons r rows ih => rw [List.flatten_cons, List.length_append, ih (fun x hx => h x (by simp [hx])), h r (by simp), List.length_cons, Nat.succ_mul, Nat.add_comm]
theorem flat_get {size : Nat} : ∀ {rows : List (List Value)}, (∀ r ∈ rows, r.length = size) → ∀ (j : Nat) (hj : j < rows.length), rowOf rows.flatten (j * size) size = rows[j]
  | r :: rows, h, 0, hj => by
    have hr := h r (by simp)
    rw [List.flatten_cons, Nat.zero_mul]; exact rowOf_app_l _ _ _ hr
  | r :: rows, h, j + 1, hj => by
    have hr := h r (by simp)
    rw [List.flatten_cons, rowOf_app_r _ _ _ _ size hr (by rw [Nat.succ_mul]; omega), Nat.succ_mul, Nat.add_sub_cancel]
    exact flat_get (fun x hx => h x (by simp [hx])) j (by simpa using hj)
theorem rowOf_take (cs : List Value) (k n m : Nat) (h : k + n ≤ m) : rowOf (cs.take m) k n = rowOf cs k n := by
  unfold rowOf; rw [List.drop_take, List.take_take, Nat.min_eq_left (by omega)]

theorem slAt_of_owns {w : World} {base : Nat} {e : TypeId} {size : Nat} {v : Value} {rows : List (List Value)} (hr : ∀ r ∈ rows, r.length = size) (h : w.ownsRow base e size v rows.length rows.flatten) : SlAt w v size rows := by
  obtain ⟨_, h2⟩ := h
  rcases h2 with ⟨rfl, h0⟩ | ⟨g, cap, cur, rfl, hg, hh, hc, hm, hs, ht⟩
  · exact ⟨none, 0, by rw [h0], by omega, fun j hj => by omega⟩
  · refine ⟨some ⟨g, 0, none⟩, cap, rfl, hc, fun j hj => ⟨g, 0, rfl, (Array.getElem?_eq_some_iff.1 hh).1, ?_, ?_⟩⟩
    · rw [Nat.zero_add]
      refine hasRow_block (cs := cur.toList) (t := e) (fr := (0, 0)) hh _ _ ?_
      rw [Array.length_toList, hs, ← Nat.succ_mul]; exact Nat.mul_le_mul_right _ (by omega)
    · rw [Nat.zero_add]
      have hb : j * size + size ≤ cur.toList.length := by rw [Array.length_toList, hs, ← Nat.succ_mul]; exact Nat.mul_le_mul_right _ (by omega)
      rw [rowAt_block (cs := cur.toList) (t := e) (fr := (0, 0)) hh _ _ hb, ← flat_get hr j hj, ← ht, rowOf_take]
      rw [← Nat.succ_mul]; exact Nat.mul_le_mul_right _ (by omega)

/-- The cells of a slice of rows. -/
theorem SlAt.cells {w : World} {size : Nat} {rows : List (List Value)} {b k : Nat} (hr : ∀ r ∈ rows, r.length = size)
    (h : ∀ j (hj : j < rows.length), hasRow w ⟨b, k + j * size, none⟩ size = true ∧ rowAt w ⟨b, k + j * size, none⟩ size = rows[j]) :
    ∀ j u, rows.flatten[j]? = some u → w.cell? ((⟨b, k, none⟩ : Addr).add j) = some u := by
  intro m u hu
  have hm : m < rows.length * size := by have := (List.getElem?_eq_some_iff.1 hu).1; rwa [flat_len hr] at this
  have hs : 0 < size := by rcases Nat.eq_zero_or_pos size with e | e; · rw [e] at hm; omega
                           · exact e
  have hq : m / size < rows.length := (Nat.div_lt_iff_lt_mul hs).2 hm
  have hrm : m % size < size := Nat.mod_lt _ hs
  have hdm : m / size * size + m % size = m := Nat.div_add_mod' m size
  obtain ⟨h1, h2⟩ := h (m / size) hq
  have hc := hasRow_iff.1 h1 (m % size) hrm
  rw [Addr.add_lit] at hc ⊢
  rw [Nat.add_assoc, hdm] at hc
  have e1 : (rowAt w ⟨b, k + m / size * size, none⟩ size)[m % size]? = some ((w.cell? ⟨b, k + m, none⟩).getD undef) := by
    rw [rowAt, List.getElem?_map, List.getElem?_range hrm, Option.map_some, Addr.add_lit, Nat.add_assoc, hdm]
  rw [h2, ← flat_get hr (m / size) hq, rowOf, List.getElem?_take, if_pos hrm, List.getElem?_drop, hdm, hu] at e1
  obtain ⟨x, hx⟩ := Option.isSome_iff_exists.1 hc
  rw [hx] at e1 ⊢
  exact e1.symm
theorem slAt_block {w : World} {size : Nat} {rows : List (List Value)} {a : Option Addr} (h0 : 0 < rows.length)
    (h : ∀ j (hj : j < rows.length), ∃ b k, a = some ⟨b, k, none⟩ ∧ b < w.heap.size ∧ hasRow w ⟨b, k + j * size, none⟩ size = true ∧ rowAt w ⟨b, k + j * size, none⟩ size = rows[j]) :
    ∃ b k, a = some ⟨b, k, none⟩ ∧ b < w.heap.size ∧ ∀ j (hj : j < rows.length), hasRow w ⟨b, k + j * size, none⟩ size = true ∧ rowAt w ⟨b, k + j * size, none⟩ size = rows[j] := by
  obtain ⟨b, k, ha, hb, _⟩ := h 0 h0
  refine ⟨b, k, ha, hb, fun j hj => ?_⟩
  obtain ⟨b', k', ha', _, h1, h2⟩ := h j hj
  rw [ha] at ha'
  injection ha' with e
  injection e with e1 e2
  subst e1; subst e2
  exact ⟨h1, h2⟩
theorem SlAt.keep {w w' : World} {a : Option Addr} {m c : Nat} {n : Nat} {l : List (List Value)} (h : SlAt w (.slice a m c) n l) (hk : ∀ x, a = some x → w'.heap[x.block]? = w.heap[x.block]?) (hs : w.heap.size ≤ w'.heap.size) : SlAt w' (.slice a m c) n l := by
  obtain ⟨a', cap, hv, hc, hj⟩ := h
  injection hv with e1 e2 e3
  subst e1; subst e3
  refine ⟨a, c, by rw [e2], hc, fun j hlt => ?_⟩
  obtain ⟨b, k, ha, hb, h1, h2⟩ := hj j hlt
  have hh := hk _ ha
  have hcell : ∀ i, i < n → w'.cell? ((⟨b, k + j * n, none⟩ : Addr).add i) = w.cell? ((⟨b, k + j * n, none⟩ : Addr).add i) := fun i _ => World.cell?_of_block (w := w) (by rw [add_block]; exact hh)
  exact ⟨b, k, ha, Nat.lt_of_lt_of_le hb hs, (hasRow_congr hcell).trans h1, (rowAt_congr hcell).trans h2⟩
theorem map_bC_len {n : Nat} (l : List (Vector UInt8 n)) : ∀ r ∈ l.map bC, r.length = n := by
  intro r hr; obtain ⟨x, _, rfl⟩ := List.mem_map.1 hr; exact bC_length x
theorem flat_one {rows : List (List Value)} (h : ∀ r ∈ rows, oneB r = true) : ∀ u ∈ rows.flatten, u.oneCell' = true := by
  intro u hu; obtain ⟨r, hr, hur⟩ := List.mem_flatten.1 hu; exact List.all_eq_true.1 (h r hr) u hur

theorem infoAut : (Tryz.prog.info? 52).map (fun i => (i.zero, i.size, i.bytes)) = some (some (.agg (Array.replicate 16 (.int .u8 0))), 16, 16) := by kernel_rfl

def ClonePost (l : List Aut) (w : World) (e : Ending) (w' : World) : Prop := ∃ a n c, e = .returned (.slice a n c) ∧ AutsAt w' (.slice a n c) l ∧ (∀ x, a = some x → w.heap.size ≤ x.block) ∧ Gr w w'
end Go.Proofs.YtcdcmohccbhchaaGreatDoor

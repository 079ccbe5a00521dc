/- Stores into a call's own blocks, in whatever world. -/
import Derived.Test.YtcdcmohccbhchaaGreatDoorKWd2
namespace Go.Proofs.YtcdcmohccbhchaaGreatDoor
open Go.RowKit

theorem grown_new {w w1 : World} {row : Option Nat} (h : w.grownBy w1 row) {k o : Nat} (hk : w.heap.size ≤ k) (u : Value) : w.grownBy (w1.setCell ⟨k, o, none⟩ u) row :=
  ⟨h.os, h.tape, h.output, by simpa using h.size, fun i hi hn => (heap_setCell_other w1 ⟨k, o, none⟩ i u (by show i ≠ k; omega)).trans (h.block i hi hn)⟩
theorem grown_sets {w : World} {row : Option Nat} {b : Nat} (hb : w.heap.size ≤ b) : ∀ (l : List Value) (k : Nat) (w1 : World), w.grownBy w1 row → w.grownBy (w1.setCells b k l) row
  | [], _, _, h => h
  | v :: l, k, w1, h => grown_sets hb l (k + 1) (w1.setCell ⟨b, k, none⟩ v) (grown_new h hb v)
theorem sets_block (b : Nat) (t : TypeId) (post : List Value) : ∀ (l pre mid : List Value) (w : World), mid.length = l.length → w.heap[b]? = some (.cells (pre ++ (mid ++ post)).toArray t (0, 0)) →
    (w.setCells b pre.length l).heap[b]? = some (.cells (pre ++ (l ++ post)).toArray t (0, 0))
  | [], pre, mid, w, h, hb => by obtain rfl : mid = [] := List.length_eq_zero_iff.1 h; exact hb
  | v :: l, pre, mid, w, h, hb => by
    obtain ⟨p, mid', rfl⟩ : ∃ p q, mid = p :: q := by cases mid with | nil => simp at h | cons p q => exact ⟨p, q, rfl⟩
    have h1 := heap_setCell_same w b pre.length _ t v hb
    have e : (pre ++ (p :: mid' ++ post)).toArray.setIfInBounds pre.length v = ((pre ++ [v]) ++ (mid' ++ post)).toArray := by simp
    rw [e] at h1
    have := sets_block b t post l (pre ++ [v]) mid' (w.setCell ⟨b, pre.length, none⟩ v) (by simpa using h) h1
    simp only [List.length_append, List.length_cons, List.length_nil, Nat.zero_add, List.append_assoc, List.cons_append, List.nil_append] at this ⊢
    exact this
theorem sets_whole {w : World} {b : Nat} {t : TypeId} {z cs : List Value} (h : w.heap[b]? = some (.cells z.toArray t (0, 0))) (hl : z.length = cs.length) : (w.setCells b 0 cs).heap[b]? = some (.cells cs.toArray t (0, 0)) := by
  have := sets_block b t [] cs [] z w hl (by simpa using h)
  simpa using this
theorem sets_other {b : Nat} {i : Nat} (hi : i ≠ b) : ∀ (l : List Value) (k : Nat) (w : World), (w.setCells b k l).heap[i]? = w.heap[i]?
  | [], _, _ => rfl
  | v :: l, k, w => (sets_other hi l (k + 1) (w.setCell ⟨b, k, none⟩ v)).trans (heap_setCell_other w ⟨b, k, none⟩ i v hi)
theorem sets_size (b : Nat) : ∀ (l : List Value) (k : Nat) (w : World), (w.setCells b k l).heap.size = w.heap.size
  | [], _, _ => rfl
  | v :: l, k, w => (sets_size b l (k + 1) (w.setCell ⟨b, k, none⟩ v)).trans (by simp)
theorem PSAt.other {w w' : World} {b : Nat} {s : ByteArray} {p : PS} (h : PSAt w b s p) (hb : w'.heap[b]? = w.heap[b]?) : PSAt w' b s p := hb.trans h
section
variable {w : World} {b : Nat} {c : Cm} {v : Value} {t : TypeId}
theorem put_cm (h : w.heap[b]? = some (.cells (cmC c v).toArray t (0, 0))) (k : Nat) (x : Value) {c' : Cm} {v' : Value} (e : (cmC c v).set k x = cmC c' v') : (w.setCell ⟨b, k, none⟩ x).heap[b]? = some (.cells (cmC c' v').toArray t (0, 0)) := by
  rw [heap_setCell_same w b k _ t x h, ← e]; simp
theorem put_group (h : w.heap[b]? = some (.cells (cmC c v).toArray t (0, 0))) (g : ByteArray) : (w.setCell ⟨b, 33, none⟩ (.string g)).heap[b]? = some (.cells (cmC { c with group := g } v).toArray t (0, 0)) := put_cm h 33 _ (by rw [cm_set _ _ _ _ (by decide)]; rfl)
theorem put_version (h : w.heap[b]? = some (.cells (cmC c v).toArray t (0, 0))) (n : Int) : (w.setCell ⟨b, 34, none⟩ (.int .i64 n)).heap[b]? = some (.cells (cmC { c with version := n } v).toArray t (0, 0)) := put_cm h 34 _ (by rw [cm_set _ _ _ _ (by decide)]; rfl)
theorem put_moderated (h : w.heap[b]? = some (.cells (cmC c v).toArray t (0, 0))) (m : Bool) : (w.setCell ⟨b, 35, none⟩ (.bool m)).heap[b]? = some (.cells (cmC { c with moderated := m } v).toArray t (0, 0)) := put_cm h 35 _ (by rw [cm_set _ _ _ _ (by decide)]; rfl)
theorem put_mods (h : w.heap[b]? = some (.cells (cmC c v).toArray t (0, 0))) (v' : Value) : (w.setCell ⟨b, 36, none⟩ v').heap[b]? = some (.cells (cmC c v').toArray t (0, 0)) := put_cm h 36 _ (by rw [cm_set _ _ _ _ (by decide)]; rfl)
theorem put_text (h : w.heap[b]? = some (.cells (cmC c v).toArray t (0, 0))) (g : ByteArray) : (w.setCell ⟨b, 37, none⟩ (.string g)).heap[b]? = some (.cells (cmC { c with text := g } v).toArray t (0, 0)) := put_cm h 37 _ (by rw [cm_set _ _ _ _ (by decide)]; rfl)
theorem put_number (h : w.heap[b]? = some (.cells (cmC c v).toArray t (0, 0))) (n : Int) : (w.setCell ⟨b, 38, none⟩ (.int .i64 n)).heap[b]? = some (.cells (cmC { c with number := n } v).toArray t (0, 0)) := put_cm h 38 _ (by rw [cm_set _ _ _ _ (by decide)]; rfl)
theorem free_block {cs : List Value} (h : w.heap[b]? = some (.cells cs.toArray t (0, 0))) (k : Nat) : w.frozen? ⟨b, k, none⟩ = false := by simp [World.frozen?, h]
end
end Go.Proofs.YtcdcmohccbhchaaGreatDoor

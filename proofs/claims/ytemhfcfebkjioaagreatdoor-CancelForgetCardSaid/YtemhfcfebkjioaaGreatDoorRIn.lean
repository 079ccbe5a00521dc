/- The articles of a statement, with the names of their groups. -/
import Derived.Test.YtemhfcfebkjioaaGreatDoorWCounts
import Derived.Test.YtemhfcfebkjioaaGreatDoorApp
namespace Go.Proofs.YtemhfcfebkjioaaGreatDoor
open Go.RowKit

/-- A slice of articles with the names of their groups. -/
def RowsAt (w : World) (v : Value) (rows : List (Rw × List ByteArray)) : Prop := SlAt w v 83 (rows.map fun x => rwC x.1) ∧ ∀ x ∈ rows, StrsAt w x.1.groups x.2 ∧ oneB (rwC x.1) = true ∧ x.2.length ≤ 1000000
theorem RowsAt.gr {w w' : World} {v : Value} {rows : List (Rw × List ByteArray)} (h : RowsAt w v rows) (hg : Gr w w') : RowsAt w' v rows := ⟨h.1.gr hg, fun x hx => ⟨(h.2 x hx).1.gr hg, (h.2 x hx).2⟩⟩
/-- What is known of the articles at the start. -/
def RowsIn (w : World) (v : Value) (rows : List (Rw × List ByteArray)) : Prop := SlAt w v 83 (rows.map fun x => rwC x.1) ∧ ∀ x ∈ rows, StrsAt w x.1.groups x.2 ∧ oneB (rwC x.1) = true
theorem rowsIn_few {w : World} {v : Value} {rows : List (Rw × List ByteArray)} (h : RowsIn w v rows) {m : Nat} (hf : fewB (rows.map (·.1)) m = true) : RowsAt w v rows ∧ rows.length ≤ 30 ∧ m ≤ 30 := by
  unfold fewB at hf
  simp only [Bool.and_eq_true, decide_eq_true_eq, List.length_map] at hf
  refine ⟨⟨h.1, fun x hx => ⟨(h.2 x hx).1, (h.2 x hx).2, ?_⟩⟩, hf.2.1, hf.2.2⟩
  have h1 := List.all_eq_true.1 hf.1 x.1 (List.mem_map_of_mem hx)
  obtain ⟨a, c, hg, _⟩ := (h.2 x hx).1
  unfold smallB grpLen at h1
  rw [hg] at h1
  simp at h1
  omega
theorem RowsIn.slots {w : World} {v : Value} {rows : List (Rw × List ByteArray)} (h : RowsIn w v rows) : SlAt w v 83 ((rows.map (·.1)).map rwC) ∧ ∀ x ∈ rows.map (·.1), ∃ a n c, x.groups = .slice a n c := by
  refine ⟨by have := h.1; rwa [List.map_map], fun x hx => ?_⟩
  obtain ⟨y, hy, rfl⟩ := List.mem_map.1 hx
  obtain ⟨a, c, hg, _⟩ := (h.2 y hy).1
  exact ⟨_, _, _, hg⟩
theorem cancRows_one (l : List Canc) : ∀ r ∈ l.map cancC, oneB r = true := by
  intro r hr; obtain ⟨x, _, rfl⟩ := List.mem_map.1 hr; exact canc_one x
theorem owns_empty (w : World) (base : Nat) (e : TypeId) (size : Nat) (hb : base ≤ w.heap.size) : (w.alloc (.cells #[] e)).ownsRow base e size (.slice (some ⟨w.heap.size, 0, none⟩) 0 0) 0 [] :=
  ⟨by simp, .inr ⟨w.heap.size, 0, #[], rfl, hb, heap_alloc_new w _, Nat.le_refl _, Nat.zero_le _, by simp, by simp⟩⟩
end Go.Proofs.YtemhfcfebkjioaaGreatDoor

/- The articles among a statement's arguments, with the names of their groups. -/
import Derived.Test.YtemhfcfebkjioaaGreatDoorRIn
import Derived.Test.YtemhfcfebkjioaaGreatDoorArgs
namespace Go.Proofs.YtemhfcfebkjioaaGreatDoor
open Go.RowKit

theorem rows_of {W : World} : ∀ l : List Rw, (∀ y ∈ l, RwGood W y) → ∃ rows : List (Rw × List ByteArray), rows.map (·.1) = l ∧ ∀ x ∈ rows, StrsAt W x.1.groups x.2 ∧ oneB (rwC x.1) = true
  | [], _ => ⟨[], rfl, by simp⟩
  | y :: l, h => by
    obtain ⟨rows, h1, h2⟩ := rows_of l (fun z hz => h z (by simp [hz]))
    obtain ⟨⟨gs, hgs⟩, hone, _⟩ := h y (by simp)
    refine ⟨(y, gs) :: rows, by simp [h1], fun x hx => ?_⟩
    rcases List.mem_cons.1 hx with rfl | hx
    · exact ⟨hgs, hone⟩
    · exact h2 x hx
theorem rowsIn_of {W : World} {v : Value} {l : List Rw} (h : SlAt W v 83 (l.map rwC)) (hg : ∀ y ∈ l, RwGood W y) : ∃ rows : List (Rw × List ByteArray), rows.length = l.length ∧ RowsIn W v rows := by
  obtain ⟨rows, h1, h2⟩ := rows_of l hg
  refine ⟨rows, by rw [← h1, List.length_map], ?_, h2⟩
  rw [← h1, List.map_map] at h
  exact h
end Go.Proofs.YtemhfcfebkjioaaGreatDoor

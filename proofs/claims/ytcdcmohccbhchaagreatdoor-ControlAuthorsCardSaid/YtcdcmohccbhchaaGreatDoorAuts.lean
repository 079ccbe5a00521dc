/- A slice of rows of cells; slices.Contains at authors. -/
import Derived.Test.YtcdcmohccbhchaaGreatDoorIds
namespace Go.Proofs.YtcdcmohccbhchaaGreatDoor
open Go.RowKit

/-- v is a slice whose elements, of n cells each, are the rows l. -/
def SlAt (w : World) (v : Value) (n : Nat) (l : List (List Value)) : Prop :=
  ∃ a cap, v = .slice a l.length cap ∧ l.length ≤ cap ∧ ∀ j (h : j < l.length), ∃ b k, a = some ⟨b, k, none⟩ ∧ b < w.heap.size ∧ hasRow w ⟨b, k + j * n, none⟩ n = true ∧ rowAt w ⟨b, k + j * n, none⟩ n = l[j]
theorem SlAt.gr {w w' : World} {v : Value} {n : Nat} {l : List (List Value)} (h : SlAt w v n l) (hg : Gr w w') : SlAt w' v n l := by
  obtain ⟨a, cap, hv, hc, hj⟩ := h
  refine ⟨a, cap, hv, hc, fun j hlt => ?_⟩
  obtain ⟨b, k, ha, hb, h1, h2⟩ := hj j hlt
  exact ⟨b, k, ha, Nat.lt_of_lt_of_le hb hg.size, (hg.hasRow hb).trans h1, (hg.rowAt hb).trans h2⟩
def AutsAt (w : World) (v : Value) (l : List Aut) : Prop := SlAt w v 16 (l.map bC)
theorem AutsAt.gr {w w' : World} {v : Value} {l : List Aut} (h : AutsAt w v l) (hg : Gr w w') : AutsAt w' v l := SlAt.gr h hg

def hasA (l : List Aut) (x : Aut) : Bool := l.any fun y => x == y
def hasTo (l : List Aut) (x : Aut) (k : Nat) : Bool := hasA (l.take k) x
theorem hasTo_succ (l : List Aut) (x : Aut) (k : Nat) (h : k < l.length) : hasTo l x (k + 1) = (hasTo l x k || x == l[k]) := by
  unfold hasTo hasA; rw [List.take_succ_eq_append_getElem h, List.any_append]; simp
theorem hasTo_all (l : List Aut) (x : Aut) (k : Nat) (h : l.length ≤ k) : hasTo l x k = hasA l x := by
  unfold hasTo; rw [List.take_of_length_le h]
theorem hasA_at (l : List Aut) (x : Aut) (k : Nat) (h : k < l.length) (hx : (x == l[k]) = true) : hasA l x = true := List.any_eq_true.2 ⟨l[k], List.getElem_mem h, hx⟩

/-- What slices.Index leaves: a number that is negative just if x is not there. -/
def IdxPost (l : List Aut) (x : Aut) (w : World) (e : Ending) (w' : World) : Prop := ∃ i : Int, e = .returned (.int .i64 i) ∧ (decide (0 ≤ i) = hasA l x) ∧ Lay w w'

end Go.Proofs.YtcdcmohccbhchaaGreatDoor

/- Identities in increasing order, without repetitions: plain facts. -/
import Derived.Test.YtemhfcfebkjioaaGreatDoorLess
namespace Go.Proofs.YtemhfcfebkjioaaGreatDoor
open Go.RowKit

/-- In strictly increasing order. -/
def Inc (l : List Id) : Prop := l.Pairwise fun a b => nm a < nm b
theorem inc_ext : ∀ {a b : List Id}, Inc a → Inc b → (∀ x, x ∈ a ↔ x ∈ b) → a = b
  | [], [], _, _, _ => rfl
  | [], y :: b, _, _, h => by have := (h y).2 (by simp); cases this
  | x :: a, [], _, _, h => by have := (h x).1 (by simp); cases this
  | x :: a, y :: b, ha, hb, h => by
    obtain ⟨ha1, ha2⟩ := List.pairwise_cons.1 ha
    obtain ⟨hb1, hb2⟩ := List.pairwise_cons.1 hb
    have e : x = y := by
      rcases List.mem_cons.1 ((h x).1 (by simp)) with e | hx
      · exact e
      · rcases List.mem_cons.1 ((h y).2 (by simp)) with e | hy
        · exact e.symm
        · have := ha1 y hy; have := hb1 x hx; omega
    subst e
    rw [inc_ext ha2 hb2 fun z => ?_]
    constructor
    · intro hz
      rcases List.mem_cons.1 ((h z).1 (by simp [hz])) with e | hz'
      · subst e; have := ha1 z hz; omega
      · exact hz'
    · intro hz
      rcases List.mem_cons.1 ((h z).2 (by simp [hz])) with e | hz'
      · subst e; have := hb1 z hz; omega
      · exact hz'
theorem inc_nil : Inc [] := List.Pairwise.nil

/-- Where an identity is inserted. -/
def insAt (l : List Id) (x : Id) (k : Nat) : List Id := if l[k]? = some x then l else l.take k ++ x :: l.drop k
/-- k is the place of x. -/
def PlaceOf (l : List Id) (x : Id) (k : Nat) : Prop := k ≤ l.length ∧ (∀ j (h : j < l.length), j < k → nm l[j] < nm x) ∧ ∀ h : k < l.length, nm x ≤ nm l[k]
theorem insAt_mem {l : List Id} {x : Id} {k : Nat} (y : Id) : y ∈ insAt l x k ↔ y ∈ l ∨ y = x := by
  unfold insAt
  by_cases h : l[k]? = some x
  · rw [if_pos h]
    constructor
    · exact .inl
    · rintro (h1 | rfl)
      · exact h1
      · exact List.mem_of_getElem? h
  · rw [if_neg h, List.mem_append, List.mem_cons]
    have e : y ∈ l ↔ y ∈ l.take k ∨ y ∈ l.drop k := by rw [← List.mem_append, List.take_append_drop]
    rw [e]
    constructor
    · rintro (h1 | h1 | h1)
      · exact .inl (.inl h1)
      · exact .inr h1
      · exact .inl (.inr h1)
    · rintro ((h1 | h1) | h1)
      · exact .inl h1
      · exact .inr (.inr h1)
      · exact .inr (.inl h1)
theorem insAt_inc {l : List Id} {x : Id} {k : Nat} (hl : Inc l) (hp : PlaceOf l x k) : Inc (insAt l x k) := by
  unfold insAt
  by_cases h : l[k]? = some x
  · rw [if_pos h]; exact hl
  · rw [if_neg h]
    obtain ⟨h0, h1, h2⟩ := hp
    unfold Inc at *
    have hd : ∀ y ∈ l.drop k, nm x < nm y := by
      intro y hy
      by_cases hk : k < l.length
      · have h3 := h2 hk
        have hne : nm x ≠ nm l[k] := fun e => h (by rw [List.getElem?_eq_getElem hk, nm_inj e])
        rw [List.drop_eq_getElem_cons hk] at hy
        have hpd : List.Pairwise (fun a b => nm a < nm b) (l.drop k) := hl.sublist (List.drop_sublist k l)
        rw [List.drop_eq_getElem_cons hk] at hpd
        rcases List.mem_cons.1 hy with rfl | hy
        · omega
        · have := (List.pairwise_cons.1 hpd).1 y hy; omega
      · rw [List.drop_of_length_le (by omega)] at hy; cases hy
    have ht : ∀ y ∈ l.take k, nm y < nm x := by
      intro y hy
      obtain ⟨j, hj, rfl⟩ := List.getElem_of_mem hy
      rw [List.length_take] at hj
      rw [List.getElem_take]
      exact h1 j (by omega) (by omega)
    rw [List.pairwise_append, List.pairwise_cons]
    refine ⟨hl.sublist (List.take_sublist k l), ⟨hd, hl.sublist (List.drop_sublist k l)⟩, fun a ha b hb => ?_⟩
    rcases List.mem_cons.1 hb with rfl | hb
    · exact ht a ha
    · have := ht a ha; have := hd b hb; omega

/-- Repetitions beside each other left out. -/
def dedup : List Id → List Id
  | [] => []
  | [x] => [x]
  | x :: y :: l => if x = y then dedup (y :: l) else x :: dedup (y :: l)
theorem dedup_mem : ∀ (l : List Id) (z : Id), z ∈ dedup l ↔ z ∈ l
  | [], _ => by simp [dedup]
  | [x], _ => by simp [dedup]
  | x :: y :: l, z => by
    have ih := dedup_mem (y :: l) z
    unfold dedup
    split
    · rename_i e; rw [ih]; subst e; simp
    · rw [List.mem_cons, ih]; simp
theorem dedup_inc : ∀ (l : List Id), l.Pairwise (fun a b => nm a ≤ nm b) → Inc (dedup l)
  | [], _ => inc_nil
  | [x], _ => by simp [dedup, Inc]
  | x :: y :: l, h => by
    obtain ⟨h1, h2⟩ := List.pairwise_cons.1 h
    have ih := dedup_inc (y :: l) h2
    unfold dedup
    split
    · exact ih
    · rename_i hne
      refine List.pairwise_cons.2 ⟨fun z hz => ?_, ih⟩
      rw [dedup_mem] at hz
      have hxy := h1 y (by simp)
      have hne' : nm x ≠ nm y := fun e => hne (nm_inj e)
      rcases List.mem_cons.1 hz with rfl | hz
      · omega
      · have := (List.pairwise_cons.1 h2).1 z hz; omega
end Go.Proofs.YtemhfcfebkjioaaGreatDoor

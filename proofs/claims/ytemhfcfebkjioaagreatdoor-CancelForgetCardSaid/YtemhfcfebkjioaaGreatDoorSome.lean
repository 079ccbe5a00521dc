/- Which articles are withdrawn: plain facts. -/
import Derived.Test.YtemhfcfebkjioaaGreatDoorInc
import Derived.Test.YtemhfcfebkjioaaGreatDoorPlainK
namespace Go.Proofs.YtemhfcfebkjioaaGreatDoor
open Go.RowKit

section
variable (x : Rw) (gs : List ByteArray) (ents : List (Dfn × List Aut))
theorem byR_isSome (l : List Canc) : (byR x gs ents l).isSome = l.any fun y => countsB y x gs ents := by
  cases h : byR x gs ents l with
  | none =>
    have h1 := (byR_none x gs ents l).1 h
    unfold filt at h1
    rw [List.filter_eq_nil_iff] at h1
    symm
    rw [Option.isSome_none, List.any_eq_false]
    exact h1
  | some m =>
    have h1 := (byR_some x gs ents h).1
    unfold filt at h1
    rw [List.mem_filter] at h1
    symm
    rw [Option.isSome_some, List.any_eq_true]
    exact ⟨m, h1.1, h1.2⟩
/-- The cancellations of one target. -/
def grp (l : List Canc) (t : Id) : List Canc := l.filter fun y => y.target == t
theorem grp_succ (l : List Canc) (t : Id) (k : Nat) (h : k < l.length) : grp (l.take (k + 1)) t = if (l[k].target == t) = true then grp (l.take k) t ++ [l[k]] else grp (l.take k) t := by
  unfold grp; rw [List.take_succ_eq_append_getElem h, List.filter_append]
  cases hb : l[k].target == t <;> simp [hb]
theorem grp_len (l : List Canc) (t : Id) (k : Nat) : (grp (l.take k) t).length ≤ k := by
  unfold grp; have := List.length_filter_le (fun y : Canc => y.target == t) (l.take k); have h2 := List.length_take_le k l; omega
theorem filt_grp (l : List Canc) : filt x gs ents (grp l x.id) = filt x gs ents l := by
  unfold filt grp
  rw [List.filter_filter]
  apply List.filter_congr
  intro y _
  unfold countsB
  cases y.target == x.id <;> simp
theorem byR_grp (l : List Canc) : byR x gs ents (grp l x.id) = byR x gs ents l := by unfold byR; rw [filt_grp]
end

/-- An article with the names of its groups is withdrawn. -/
def goneB (ents : List (Dfn × List Aut)) (l : List Canc) (x : Rw × List ByteArray) : Bool := l.any fun y => countsB y x.1 x.2 ents
def goneIds (ents : List (Dfn × List Aut)) (l : List Canc) (rows : List (Rw × List ByteArray)) : List Id := (rows.filter (goneB ents l)).map fun x => x.1.id
theorem goneIds_mem (ents : List (Dfn × List Aut)) (l : List Canc) (rows : List (Rw × List ByteArray)) (i : Id) : i ∈ goneIds ents l rows ↔ ∃ x ∈ rows, goneB ents l x = true ∧ x.1.id = i := by
  unfold goneIds
  simp only [List.mem_map, List.mem_filter]
  constructor
  · rintro ⟨x, ⟨h1, h2⟩, h3⟩; exact ⟨x, h1, h2, h3⟩
  · rintro ⟨x, h1, h2, h3⟩; exact ⟨x, ⟨h1, h2⟩, h3⟩
theorem goneIds_succ (ents : List (Dfn × List Aut)) (l : List Canc) (rows : List (Rw × List ByteArray)) (k : Nat) (h : k < rows.length) : goneIds ents l (rows.take (k + 1)) = if goneB ents l rows[k] = true then goneIds ents l (rows.take k) ++ [rows[k].1.id] else goneIds ents l (rows.take k) := by
  unfold goneIds; rw [List.take_succ_eq_append_getElem h, List.filter_append, List.map_append]
  cases hb : goneB ents l rows[k] <;> simp [hb]
theorem goneIds_len (ents : List (Dfn × List Aut)) (l : List Canc) (rows : List (Rw × List ByteArray)) (k : Nat) : (goneIds ents l (rows.take k)).length ≤ k := by
  unfold goneIds; rw [List.length_map]; have := List.length_filter_le (goneB ents l) (rows.take k); have h2 := List.length_take_le k rows; omega

/-! ### more definitions -/
theorem addV_app (L : List Vis) (d : Dfn) (l : List Aut) : ∃ M, addV L d l = L ++ M := by
  unfold addV; split
  · exact ⟨_, rfl⟩
  · exact ⟨[], by simp⟩
theorem foldV_app : ∀ (ds : List (Dfn × List Aut)) (L : List Vis), ∃ M, ds.foldl (fun L e => addV L e.1 e.2) L = L ++ M
  | [], L => ⟨[], by simp⟩
  | e :: ds, L => by
    obtain ⟨M, hM⟩ := addV_app L e.1 e.2
    obtain ⟨M', hM'⟩ := foldV_app ds (addV L e.1 e.2)
    exact ⟨M ++ M', by rw [List.foldl_cons, hM', hM, List.append_assoc]⟩
theorem madeV_app (ds fs : List (Dfn × List Aut)) (h : (ds ++ fs).length ≤ 12) : ∃ M, madeV (ds ++ fs) 12 = madeV ds 12 ++ M := by
  unfold madeV
  rw [List.length_append] at h
  rw [List.take_of_length_le (by rw [List.length_append]; omega), List.take_of_length_le (by omega), List.foldl_append]
  exact foldV_app fs _
theorem everV_app (L M : List Vis) (g : ByteArray) (x : Aut) (h : everV L g x = true) : everV (L ++ M) g x = true := by
  unfold everV at *; rw [List.any_append, h, Bool.true_or]
theorem countsV_app (y : Canc) (x : Rw) (gs : List ByteArray) (L M : List Vis) (h : countsV y x gs L = true) : countsV y x gs (L ++ M) = true := by
  unfold countsV at *
  rw [Bool.and_eq_true] at h ⊢
  refine ⟨h.1, ?_⟩
  rw [Bool.or_eq_true] at *
  refine h.2.imp id fun h2 => ?_
  obtain ⟨g, hg, h3⟩ := List.any_eq_true.1 h2
  exact List.any_eq_true.2 ⟨g, hg, everV_app L M g _ h3⟩
theorem gone_more {ents ents' : List (Dfn × List Aut)} {ds fs : List (Dfn × List Aut)} (h1 : ents.map vis = madeV ds 12) (h2 : ents'.map vis = madeV (ds ++ fs) 12) (hl : (ds ++ fs).length ≤ 12) (l more : List Canc) (x : Rw × List ByteArray) (h : goneB ents l x = true) : goneB ents' (l ++ more) x = true := by
  unfold goneB at *
  obtain ⟨y, hy, hc⟩ := List.any_eq_true.1 h
  obtain ⟨M, hM⟩ := madeV_app ds fs hl
  refine List.any_eq_true.2 ⟨y, by simp [hy], ?_⟩
  rw [countsB_vis, h1] at hc
  rw [countsB_vis, h2, hM]
  exact countsV_app _ _ _ _ _ hc

/-! ### authors of no definition -/
theorem foldV_mem : ∀ (ds : List (Dfn × List Aut)) (L : List Vis) (v : Vis), v ∈ ds.foldl (fun L e => addV L e.1 e.2) L → v ∈ L ∨ ∃ e ∈ ds, v = (e.1.id, e.1.group, e.2)
  | [], L, v, h => .inl h
  | e :: ds, L, v, h => by
    rw [List.foldl_cons] at h
    rcases foldV_mem ds _ v h with h | ⟨e', he', hv⟩
    · unfold addV at h
      split at h
      · rcases List.mem_append.1 h with h | h
        · exact .inl h
        · exact .inr ⟨e, by simp, by simpa using h⟩
      · exact .inl h
    · exact .inr ⟨e', by simp [he'], hv⟩
def foreignB (x : Rw) (ds : List (Dfn × List Aut)) (y : Canc) : Bool := (!(y.author == x.author)) && ds.all fun e => !hasA e.2 y.author
theorem foreign_not {ents ds : List (Dfn × List Aut)} (h1 : ents.map vis = madeV ds 12) (x : Rw) (gs : List ByteArray) (y : Canc) (h : foreignB x ds y = true) : countsB y x gs ents = false := by
  unfold foreignB at h
  rw [Bool.and_eq_true, Bool.not_eq_true', List.all_eq_true] at h
  obtain ⟨ha, hm⟩ := h
  unfold countsB
  rw [ha, Bool.false_or]
  have : (gs.any fun g => everB ents g y.author) = false := by
    rw [List.any_eq_false]
    intro g _ hg
    rw [everB_vis, h1] at hg
    unfold everV madeV at hg
    obtain ⟨v, hv, hv2⟩ := List.any_eq_true.1 hg
    rcases foldV_mem _ _ v hv with h | ⟨e, he, rfl⟩
    · cases h
    · have := hm e (List.mem_of_mem_take he)
      rw [Bool.and_eq_true] at hv2
      rw [hv2.2] at this
      cases this
  rw [this, Bool.and_false]
end Go.Proofs.YtemhfcfebkjioaaGreatDoor

/- Slices of strings that a call owns: made, appended to, joined. -/
import Derived.Test.YtcdcmohccbhchaaGreatDoorKChk
import Derived.Test.YtcdcmohccbhchaaGreatDoorApp
import Derived.Deep.RegionHeld3
import Derived.Deep.RegionHeldLaw
namespace Go.Proofs.YtcdcmohccbhchaaGreatDoor
open Go.RowKit

def rowsS (l : List ByteArray) : List (List Value) := l.map fun s => [Value.string s]
theorem rowsS_flat (l : List ByteArray) : (rowsS l).flatten = l.map Value.string := by
  induction l with
  | nil => rfl
  | cons s l ih => unfold rowsS at *; rw [List.map_cons, List.flatten_cons, ih]; rfl
theorem rowsS_len (l : List ByteArray) : ∀ r ∈ rowsS l, r.length = 1 := by
  intro r hr; obtain ⟨s, _, rfl⟩ := List.mem_map.1 hr; rfl
theorem rowsS_one (l : List ByteArray) : ∀ r ∈ rowsS l, oneB r = true := by
  intro r hr; obtain ⟨s, _, rfl⟩ := List.mem_map.1 hr; rfl
theorem rowsS_length (l : List ByteArray) : (rowsS l).length = l.length := by unfold rowsS; simp
/-- v is a slice of the strings l, that the call owns. -/
def OwnS (w : World) (base : Nat) (v : Value) (l : List ByteArray) : Prop := w.ownsRow base 9 1 v l.length (l.map Value.string)
theorem OwnS.nil (w : World) (base : Nat) : OwnS w base (.slice none 0 0) [] := ⟨rfl, .inl ⟨rfl, rfl⟩⟩
theorem OwnS.made {w : World} {base b : Nat} {l : List ByteArray} (h : w.heap[b]? = some (.cells (l.map Value.string).toArray 9 (0, 0))) (hb : base ≤ b) (hl : l.length ≤ 1000000) : OwnS w base (.slice (some ⟨b, 0, none⟩) l.length l.length) l :=
  ⟨by simp, .inr ⟨b, l.length, _, rfl, hb, h, Nat.le_refl _, by unfold maxLen; omega, by simp, by rw [Nat.mul_one, List.toList_toArray, List.take_of_length_le (by simp)]⟩⟩
theorem OwnS.gr {w w' : World} {base : Nat} {v : Value} {l : List ByteArray} (h : OwnS w base v l) (hg : Gr w w') : OwnS w' base v l := World.ownsRow.kept h hg.grownBy (by cases v.ownBlock <;> simp)
theorem OwnS.sl {w : World} {base : Nat} {v : Value} {l : List ByteArray} (h : OwnS w base v l) : SlAt w v 1 (rowsS l) :=
  slAt_of_owns (rowsS_len l) (by rw [rowsS_length, rowsS_flat]; exact h)
theorem infoStr0 : (Tryz.prog.info? 9).map (fun i => (i.zero, i.size, i.bytes)) = some (some (.string ⟨#[]⟩), 1, 16) := by kernel_rfl
theorem infoStr : ∃ i z, Tryz.prog.info? 9 = some i ∧ i.zero = some z ∧ i.size = 1 ∧ i.bytes = 16 ∧ z.cells.size = 1 := by
  have h := infoStr0
  cases hi : Tryz.prog.info? 9 with
  | none => rw [hi] at h; cases h
  | some i =>
    rw [hi] at h
    simp only [Option.map_some, Option.some.injEq, Prod.mk.injEq] at h
    exact ⟨i, .string ⟨#[]⟩, rfl, h.1, h.2.1, h.2.2, rfl⟩
theorem wpList_append_str (w : World) {ops : Array Oper} {rest : List Oper} {o : Oper} {a : Act} {Q : Exit → Act → World → Prop} (hgd : o.guard = none) (s x : Operand)
    (ho : o.op = .call { callee := .builtin .append, args := #[s, x], argTypes := #[61, 61] }) (base : Nat) (v : Value) (xs : List ByteArray) (hs : a.eval s = v) (hown : OwnS w base v xs)
    (sv : Value) (ys : List ByteArray) (hx : a.eval x = sv) (hsl : OwnS w base sv ys) (h63 : xs.length + ys.length ≤ 1000000) (hbase : base ≤ w.heap.size)
    (h : ∀ a' c' w', OwnS w' base (.slice a' (xs ++ ys).length c') (xs ++ ys) → w.grownBy w' v.ownBlock → wpList Tryz.prog ops Q rest (a.put o.dst (.slice a' (xs ++ ys).length c')) w') :
    wpList Tryz.prog ops Q (o :: rest) a w := by
  obtain ⟨i, z, h1, h2, h3, h4, h5⟩ := infoStr
  refine wpList_append_sl w hgd s x 61 ho base 9 i z 1 16 Tryz.underlying61 h1 h2 h3 h4 h5 (by decide) v xs.length (xs.map Value.string) hs hown sv (rowsS ys) hx hsl.sl (rowsS_len _) (rowsS_one _) (by rw [rowsS_length]; exact h63) (by decide) hbase ?_
  intro a' c' w' ho' hg _
  rw [rowsS_flat, rowsS_length] at ho'
  rw [rowsS_length]
  have e : xs.length + ys.length = (xs ++ ys).length := by simp
  rw [e]
  refine h a' c' w' ?_ hg
  unfold OwnS
  rw [List.map_append, ← e]; exact ho'
/-- .. as a step of a region that draws its order. -/
theorem step_append_str {ops : Array Oper} {o : Oper} {a : Act} {w : World} {K : Act → World → Prop} {Q : Exit → Act → World → Prop} {E : Prop}
    (hg : o.guard = none) (d : Nat) (hd : o.dst = some d) (s x : Operand) (hop : o.op = Op.call { callee := Callee.builtin Builtin.append, args := #[s, x], argTypes := #[61, 61] })
    (base : Nat) (v : Value) (xs : List ByteArray) (hs : a.eval s = v) (hown : OwnS w base v xs) (sv : Value) (ys : List ByteArray) (hx : a.eval x = sv) (hsl : OwnS w base sv ys) (N : Nat) (hN : xs.length + ys.length = N) (h63 : N ≤ 1000000) (hbase : base ≤ w.heap.size)
    (hK : ∀ a' c' w', OwnS w' base (.slice a' N c') (xs ++ ys) → w.grownBy w' v.ownBlock → K (a.put (some d) (.slice a' N c')) w') :
    if Region.wanted o (yielded ops a.tmps) = true then Oper.wp Tryz.prog o a w K Q else E := by
  subst hN
  have hw : Region.wanted o (yielded ops a.tmps) = true := by simp [Region.wanted, hg]
  rw [if_pos hw]
  obtain ⟨i, z, i1, i2, i3, i4, i5⟩ := infoStr
  obtain ⟨a', c', w', hrun, h2, h3, _⟩ := run_append_sl (P := Tryz.prog) w base 61 o.type 9 i z 1 16 Tryz.underlying61 i1 i2 i3 i4 i5 (by decide) v xs.length (xs.map Value.string) hown sv (rowsS ys) hsl.sl (rowsS_len _) (rowsS_one _) (by rw [rowsS_length]; exact h63) (by decide) hbase
  rw [rowsS_length] at hrun h2
  rw [rowsS_flat] at h2
  unfold Oper.wp
  simp [execOp, hop, resolve, invoke, builtin, hs, hx, hrun, Result.andThen]
  show K (a.put o.dst _) w'
  rw [hd]
  refine hK a' c' w' ?_ h3
  unfold OwnS
  rw [List.map_append, List.length_append]; exact h2
theorem OwnS.cells {w : World} {base : Nat} {v : Value} {l : List ByteArray} (h : OwnS w base v l) (hl : l ≠ []) : ∃ g c, v = .slice (some ⟨g, 0, none⟩) l.length c ∧ l.length ≤ c ∧ g < w.heap.size ∧ ∀ (j : Nat) x, l[j]? = some x → w.cell? ⟨g, 0 + j, none⟩ = some (.string x) := by
  obtain ⟨_, h2⟩ := h
  rcases h2 with ⟨_, h0⟩ | ⟨g, cap, cur, hv, hg, hh, hc, hm, hs, ht⟩
  · exact absurd (List.length_eq_zero_iff.1 h0) hl
  · refine ⟨g, cap, hv, hc, (Array.getElem?_eq_some_iff.1 hh).1, fun j x hj => ?_⟩
    rw [Nat.zero_add, cell_of_row _ _ _ _ _ _ hh]
    have hlt := (List.getElem?_eq_some_iff.1 hj).1
    have := congrArg (fun l => l[j]?) ht
    simp only [List.getElem?_take, Nat.mul_one, if_pos hlt, List.getElem?_map, hj, Option.map_some] at this
    rw [← this, Array.getElem?_toList]
theorem map_bl (l : List ByteArray) : l.map (·.data.toList) = l.map bl := rfl
/-- strings.Join. -/
theorem OwnS.join {w : World} {base : Nat} {v : Value} {l : List ByteArray} (h : OwnS w base v l) (sep : ByteArray) (hlen : (Lib.join (l.map bl) (bl sep)).length ≤ 140737488355328) (hl : l.length ≤ 1000000) :
    Calls Tryz.prog 35 #[v, .string sep] w fun e w' => e = .returned (.string (bs (Lib.join (l.map bl) (bl sep)))) ∧ Gr w w' := by
  by_cases h0 : l = []
  · subst h0
    obtain ⟨_, h2⟩ := h
    obtain ⟨a, c, rfl⟩ : ∃ a c, v = .slice a 0 c := by
      rcases h2 with ⟨rfl, _⟩ | ⟨g, cap, cur, rfl, _⟩
      · exact ⟨_, _, rfl⟩
      · exact ⟨_, _, rfl⟩
    refine (Tryz.strings_Join_none a c sep w).mono ?_
    rintro e w' ⟨rfl, rfl⟩
    exact ⟨rfl, Gr.refl _⟩
  · obtain ⟨g, c, rfl, hc, hg, hcell⟩ := h.cells h0
    exact (Tryz.strings_Join g 0 c l sep w hcell hg (by omega) hc hlen).mono fun _ _ ⟨he, hb⟩ => ⟨he, hb⟩
end Go.Proofs.YtcdcmohccbhchaaGreatDoor

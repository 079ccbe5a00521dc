/- Slices of bytes that a call owns: made, appended to. -/
import Derived.Test.YtcdcmohccbhchaaGreatDoorKStr
namespace Go.Proofs.YtcdcmohccbhchaaGreatDoor
open Go.RowKit

def cU (b : UInt8) : Value := .int .u8 (b.toNat : Int)
def rowsU (l : List UInt8) : List (List Value) := l.map fun s => [cU s]
theorem rowsU_flat (l : List UInt8) : (rowsU l).flatten = l.map cU := by
  induction l with
  | nil => rfl
  | cons s l ih => unfold rowsU at *; rw [List.map_cons, List.flatten_cons, ih]; rfl
theorem rowsU_len (l : List UInt8) : ∀ r ∈ rowsU l, r.length = 1 := by
  intro r hr; obtain ⟨s, _, rfl⟩ := List.mem_map.1 hr; rfl
theorem rowsU_one (l : List UInt8) : ∀ r ∈ rowsU l, oneB r = true := by
  intro r hr; obtain ⟨s, _, rfl⟩ := List.mem_map.1 hr; rfl
theorem rowsU_length (l : List UInt8) : (rowsU l).length = l.length := by unfold rowsU; simp
/-- v is a slice of the bytes l, that the call owns. -/
def OwnU (w : World) (base : Nat) (v : Value) (l : List UInt8) : Prop := w.ownsRow base 5 1 v l.length (l.map cU)
theorem OwnU.nil (w : World) (base : Nat) : OwnU w base (.slice none 0 0) [] := ⟨rfl, .inl ⟨rfl, rfl⟩⟩
theorem OwnU.made {w : World} {base b : Nat} {l : List UInt8} (h : w.heap[b]? = some (.cells (l.map cU).toArray 5 (0, 0))) (hb : base ≤ b) (hl : l.length ≤ 1000000) : OwnU w base (.slice (some ⟨b, 0, none⟩) l.length l.length) l :=
  ⟨by simp, .inr ⟨b, l.length, _, rfl, hb, h, Nat.le_refl _, by unfold maxLen; omega, by simp, by rw [Nat.mul_one, List.toList_toArray, List.take_of_length_le (by simp)]⟩⟩
theorem OwnU.gr {w w' : World} {base : Nat} {v : Value} {l : List UInt8} (h : OwnU w base v l) (hg : Gr w w') : OwnU w' base v l := World.ownsRow.kept h hg.grownBy (by cases v.ownBlock <;> simp)
theorem OwnU.sl {w : World} {base : Nat} {v : Value} {l : List UInt8} (h : OwnU w base v l) : SlAt w v 1 (rowsU l) :=
  slAt_of_owns (rowsU_len l) (by rw [rowsU_length, rowsU_flat]; exact h)
theorem infoU0 : (Tryz.prog.info? 5).map (fun i => (i.zero, i.size, i.bytes)) = some (some (.int .u8 0), 1, 1) := by kernel_rfl
theorem infoU : ∃ i z, Tryz.prog.info? 5 = some i ∧ i.zero = some z ∧ i.size = 1 ∧ i.bytes = 1 ∧ z.cells.size = 1 := by
  have h := infoU0
  cases hi : Tryz.prog.info? 5 with
  | none => rw [hi] at h; cases h
  | some i =>
    rw [hi] at h
    simp only [Option.map_some, Option.some.injEq, Prod.mk.injEq] at h
    exact ⟨i, .int .u8 0, rfl, h.1, h.2.1, h.2.2, rfl⟩
/-- .. as a step of a region that draws its order. -/
theorem step_append_u8 {ops : Array Oper} {o : Oper} {a : Act} {w : World} {K : Act → World → Prop} {Q : Exit → Act → World → Prop} {E : Prop}
    (hg : o.guard = none) (d : Nat) (hd : o.dst = some d) (s x : Operand) (hop : o.op = Op.call { callee := Callee.builtin Builtin.append, args := #[s, x], argTypes := #[69, 69] })
    (base : Nat) (v : Value) (xs : List UInt8) (hs : a.eval s = v) (hown : OwnU w base v xs) (sv : Value) (ys : List UInt8) (hx : a.eval x = sv) (hsl : OwnU w base sv ys) (N : Nat) (hN : xs.length + ys.length = N) (h63 : N ≤ 1000000) (hbase : base ≤ w.heap.size)
    (hK : ∀ a' c' w', OwnU w' base (.slice a' N c') (xs ++ ys) → w.grownBy w' v.ownBlock → K (a.put (some d) (.slice a' N c')) w') :
    if Region.wanted o (yielded ops a.tmps) = true then Oper.wp Tryz.prog o a w K Q else E := by
  subst hN
  have hw : Region.wanted o (yielded ops a.tmps) = true := by simp [Region.wanted, hg]
  rw [if_pos hw]
  obtain ⟨i, z, i1, i2, i3, i4, i5⟩ := infoU
  obtain ⟨a', c', w', hrun, h2, h3, _⟩ := run_append_sl (P := Tryz.prog) w base 69 o.type 5 i z 1 1 Tryz.underlying69 i1 i2 i3 i4 i5 (by decide) v xs.length (xs.map cU) hown sv (rowsU ys) hsl.sl (rowsU_len _) (rowsU_one _) (by rw [rowsU_length]; exact h63) (by decide) hbase
  rw [rowsU_length] at hrun h2
  rw [rowsU_flat] at h2
  unfold Oper.wp
  simp [execOp, hop, resolve, invoke, builtin, hs, hx, hrun, Result.andThen]
  show K (a.put o.dst _) w'
  rw [hd]
  refine hK a' c' w' ?_ h3
  unfold OwnU
  rw [List.map_append, List.length_append]; exact h2
end Go.Proofs.YtcdcmohccbhchaaGreatDoor

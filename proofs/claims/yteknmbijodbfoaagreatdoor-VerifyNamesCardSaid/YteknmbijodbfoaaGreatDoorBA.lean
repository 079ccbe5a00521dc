/- Rows of cells: what a load of an aggregate reads and what a store of one lays, as rules for the walk; bytes as vectors. The records of the statements as rows of cells: a cancellation, a row, a definition; their parts; equality of byte arrays. Closed facts on the program's types, and the rules by which the walk loads, stores and compares aggregates. A region that draws its order: a head that is quiet in a class of worlds, then a tail in one forced order. One walk of the text's order serves every order. Built on the library's laws of both. The comparing functions of the library at ints, bytes, strings and slices of bytes; worlds that a comparing function leaves. Two classes of worlds for a region that draws its order: 'w with blocks and draws' (Lay) and 'w with blocks' (Gr), as terms that the walk sees through. The comparing functions of identities, definitions and cancellations: what each returns; blocks and draws alone are left behind. A slice of rows of cells; slices.Contains at authors. Slices of rows that a call owns, as slices of rows; slices.Clone at authors. append of a slice of rows onto a slice that the call owns, whatever the source. A slice of strings; slices.ContainsFunc at strings, for whatever closure that lays blocks alone. groupname.Check: what it returns. The world's one fact: the library's variable MaxLen holds some number. -/
import Derived.WalkKit
import Derived.WalkSmall
import Derived.Lib.Hide
import Derived.Lib.Strings
import Derived.Deep.Draws
import Derived.Laws.Cells
import Derived.Laws.Tables
import Derived.Laws.IdiomCopy
import Derived.Laws.NewBlocks
import Derived.Laws.StructEq
import Derived.Deep.MidRow
import Derived.ChangeKeysEq
import Derived.Test.YteknmbijodbfoaaGreatDoorProg
import Derived.Deep.Quiet
import Derived.StillTail
import Derived.Deep.QuietTactic
import Derived.BigQuiet
import Derived.Outline
import Derived.WalkSpells
import Derived.WalkLawsBesides
import Derived.Lib.Bytealg
import Derived.Sort.Grow
import Derived.Laws.Externs
import Derived.OwnWalk
import Derived.Laws.AppendOwnNone
import Derived.Maps.AppendAt
import Derived.Test.YteknmbijodbfoaaGreatDoorShelf
import Derived.Lib.SlBytesConst
namespace Go.Proofs.YteknmbijodbfoaaGreatDoor
open Go.RowKit

/-- w' is w with new blocks and draws: of what was there nothing has turned. -/
def Gr (w w' : World) : Prop := Below w.heap.size w w'
theorem Gr.refl (w : World) : Gr w w := Below.refl _ _
theorem Gr.size {w w' : World} (h : Gr w w') : w.heap.size ≤ w'.heap.size := Below.size h
theorem Gr.trans {a b c : World} (h : Gr a b) (k : Gr b c) : Gr a c := Below.trans h (Below.mono k h.size)
theorem Gr.drew {a w : World} (h : Gr a w) : Gr a w.drew := Below.drew h
theorem Gr.drewN {a w : World} (h : Gr a w) (n : Nat) : Gr a (w.drewN n) := below_drewN h n
theorem Gr.alloc {a w : World} (h : Gr a w) (o : Obj) : Gr a (w.alloc o) := Below.alloc h h.size o
theorem Gr.setCell {a w : World} (h : Gr a w) {p : Addr} (hp : a.heap.size ≤ p.block) (u : Value) : Gr a (w.setCell p u) := Below.setCell h hp u
theorem Gr.grown {a w w' : World} {row : Option Nat} (h : Gr a w) (hg : w.grownBy w' row) (hr : ∀ k, row = some k → a.heap.size ≤ k) : Gr a w' := Below.grown h hg h.size hr
theorem Gr.cell {w w' : World} (h : Gr w w') {p : Addr} (hp : p.block < w.heap.size) : w'.cell? p = w.cell? p := Below.cell h hp
theorem Gr.frozen {w w' : World} (h : Gr w w') {p : Addr} (hp : p.block < w.heap.size) : w'.frozen? p = w.frozen? p := Below.frozen h hp
theorem Gr.block {w w' : World} (h : Gr w w') {b : Nat} (hb : b < w.heap.size) : w'.heap[b]? = w.heap[b]? := Below.block h b hb
theorem Gr.grownBy {w w' : World} (h : Gr w w') : w.grownBy w' none := ⟨h.os, h.tape, h.output, Below.size h, fun k hk _ => Below.block h k hk⟩
theorem Gr.of_grownBy {w w' : World} (h : w.grownBy w' none) : Gr w w' := ⟨h.os, h.tape, h.output, h.size, fun k hk => h.block k hk (by simp)⟩

/-- The bytes of a string. -/
def bl (s : ByteArray) : List UInt8 := s.data.toList
theorem bl_length (s : ByteArray) : (bl s).length = s.size := (Lib.size_eq s).symm
theorem bl_toList (s : ByteArray) : s.toList = bl s := Lib.toList_data s
theorem bl_inj {s t : ByteArray} (h : bl s = bl t) : s = t := by
  cases s; cases t; simp only [bl] at h; congr 1; exact Array.toList_inj.1 h
theorem ret_int {k : IntKind} {a b : Int} (h : a = b) : Ending.returned (.int k a) = .returned (.int k b) := by rw [h]
theorem ret_bool {a b : Bool} (h : a = b) : Ending.returned (.bool a) = .returned (.bool b) := by rw [h]

/-! ### rows -/
/-- The n cells from a on. -/
def rowAt (w : World) (a : Addr) (n : Nat) : List Value := (List.range n).map fun i => (w.cell? (a.add i)).getD undef
/-- .. they are there. -/
def hasRow (w : World) (a : Addr) (n : Nat) : Bool := (List.range n).all fun i => (w.cell? (a.add i)).isSome
/-- .. and may be written. -/
def freeRow (w : World) (a : Addr) (n : Nat) : Bool := (List.range n).all fun i => !w.frozen? (a.add i)
/-- The n cells of an array from k on. -/
def rowOf (cs : List Value) (k n : Nat) : List Value := (cs.drop k).take n

theorem hasRow_iff {w : World} {a : Addr} {n : Nat} : hasRow w a n = true ↔ ∀ i, i < n → (w.cell? (a.add i)).isSome = true := by
  simp [hasRow, List.all_eq_true]
theorem freeRow_iff {w : World} {a : Addr} {n : Nat} : freeRow w a n = true ↔ ∀ i, i < n → w.frozen? (a.add i) = false := by
  simp [freeRow, List.all_eq_true]

theorem add_block (a : Addr) (n : Nat) : (a.add n).block = a.block := by unfold Addr.add; split <;> rfl

theorem rowAt_congr {w w' : World} {a : Addr} {n : Nat} (h : ∀ i, i < n → w'.cell? (a.add i) = w.cell? (a.add i)) : rowAt w' a n = rowAt w a n := by
  unfold rowAt; apply List.map_congr_left; intro i hi; rw [h i (by simpa using hi)]
theorem hasRow_congr {w w' : World} {a : Addr} {n : Nat} (h : ∀ i, i < n → w'.cell? (a.add i) = w.cell? (a.add i)) : hasRow w' a n = hasRow w a n := by
  rw [Bool.eq_iff_iff, hasRow_iff, hasRow_iff]; constructor
  · intro g i hi; rw [← h i hi]; exact g i hi
  · intro g i hi; rw [h i hi]; exact g i hi
theorem freeRow_congr {w w' : World} {a : Addr} {n : Nat} (h : ∀ i, i < n → w'.frozen? (a.add i) = w.frozen? (a.add i)) : freeRow w' a n = freeRow w a n := by
  rw [Bool.eq_iff_iff, freeRow_iff, freeRow_iff]; constructor
  · intro g i hi; rw [← h i hi]; exact g i hi
  · intro g i hi; rw [h i hi]; exact g i hi

theorem rowAt_past (w : World) (o : Obj) (b k n : Nat) (h : b < w.heap.size) : rowAt (w.alloc o) ⟨b, k, none⟩ n = rowAt w ⟨b, k, none⟩ n :=
  rowAt_congr fun i _ => World.cell?_alloc_lt w o _ (by rw [add_block]; exact h)
theorem hasRow_past (w : World) (o : Obj) (b k n : Nat) (h : b < w.heap.size) : hasRow (w.alloc o) ⟨b, k, none⟩ n = hasRow w ⟨b, k, none⟩ n :=
  hasRow_congr fun i _ => World.cell?_alloc_lt w o _ (by rw [add_block]; exact h)
theorem freeRow_past (w : World) (o : Obj) (b k n : Nat) (h : b < w.heap.size) : freeRow (w.alloc o) ⟨b, k, none⟩ n = freeRow w ⟨b, k, none⟩ n :=
  freeRow_congr fun i _ => World.frozen?_alloc_old w o _ (by rw [add_block]; exact Nat.ne_of_lt h)
theorem rowAt_drew (w : World) (a : Addr) (n : Nat) : rowAt w.drew a n = rowAt w a n := rfl
theorem hasRow_drew (w : World) (a : Addr) (n : Nat) : hasRow w.drew a n = hasRow w a n := rfl
theorem freeRow_drew (w : World) (a : Addr) (n : Nat) : freeRow w.drew a n = freeRow w a n := rfl
theorem rowAt_drewN (w : World) (m : Nat) (a : Addr) (n : Nat) : rowAt (w.drewN m) a n = rowAt w a n := rowAt_congr fun _ _ => World.cell?_drewN ..
theorem hasRow_drewN (w : World) (m : Nat) (a : Addr) (n : Nat) : hasRow (w.drewN m) a n = hasRow w a n := hasRow_congr fun _ _ => World.cell?_drewN ..

theorem cell_block {w : World} {b : Nat} {cs : List Value} {t : TypeId} {fr : Nat × Nat} (h : w.heap[b]? = some (.cells cs.toArray t fr)) (k : Nat) : w.cell? ⟨b, k, none⟩ = cs[k]? := by
  simp [World.cell?, h]
theorem rowAt_block {w : World} {b : Nat} {cs : List Value} {t : TypeId} {fr : Nat × Nat} (h : w.heap[b]? = some (.cells cs.toArray t fr)) (k n : Nat) (hn : k + n ≤ cs.length) : rowAt w ⟨b, k, none⟩ n = rowOf cs k n := by
  apply List.ext_getElem?
  intro i
  simp only [rowAt, rowOf, List.getElem?_map, List.getElem?_take, List.getElem?_drop]
  by_cases hi : i < n
  · rw [if_pos hi, List.getElem?_range hi, Option.map_some, Addr.add_lit, cell_block h, List.getElem?_eq_getElem (by omega)]; rfl
  · rw [if_neg hi, List.getElem?_eq_none (by simp; omega)]; rfl
theorem hasRow_block {w : World} {b : Nat} {cs : List Value} {t : TypeId} {fr : Nat × Nat} (h : w.heap[b]? = some (.cells cs.toArray t fr)) (k n : Nat) (hn : k + n ≤ cs.length) : hasRow w ⟨b, k, none⟩ n = true := by
  rw [hasRow_iff]; intro i hi; rw [Addr.add_lit, cell_block h, List.getElem?_eq_getElem (by omega)]; rfl
theorem freeRow_block {w : World} {b : Nat} {cs : List Value} {t : TypeId} (h : w.heap[b]? = some (.cells cs.toArray t (0, 0))) (k n : Nat) : freeRow w ⟨b, k, none⟩ n = true := by
  rw [freeRow_iff]; intro i hi; rw [Addr.add_lit]; simp [World.frozen?, h]
theorem heap_new (w : World) (o : Obj) (b : Nat) (h : b = w.heap.size) : (w.alloc o).heap[b]? = some o := by subst h; exact heap_alloc_new w o
theorem rowAt_at (w : World) (cs : List Value) (t : TypeId) (b k n : Nat) (h : b = w.heap.size) (hn : k + n ≤ cs.length) : rowAt (w.alloc (.cells cs.toArray t)) ⟨b, k, none⟩ n = rowOf cs k n := rowAt_block (heap_new w _ b h) k n hn
theorem hasRow_at (w : World) (cs : List Value) (t : TypeId) (b k n : Nat) (h : b = w.heap.size) (hn : k + n ≤ cs.length) : hasRow (w.alloc (.cells cs.toArray t)) ⟨b, k, none⟩ n = true := hasRow_block (heap_new w _ b h) k n hn
theorem freeRow_at (w : World) (cs : List Value) (t : TypeId) (b k n : Nat) (h : b = w.heap.size) : freeRow (w.alloc (.cells cs.toArray t)) ⟨b, k, none⟩ n = true := freeRow_block (heap_new w _ b h) k n

theorem Gr.rowAt {w w' : World} (h : Gr w w') {b k n : Nat} (hb : b < w.heap.size) : rowAt w' ⟨b, k, none⟩ n = rowAt w ⟨b, k, none⟩ n := rowAt_congr fun i _ => h.cell (by rw [add_block]; exact hb)
theorem Gr.hasRow {w w' : World} (h : Gr w w') {b k n : Nat} (hb : b < w.heap.size) : hasRow w' ⟨b, k, none⟩ n = hasRow w ⟨b, k, none⟩ n := hasRow_congr fun i _ => h.cell (by rw [add_block]; exact hb)
theorem hasRow_lt {w : World} {b k n : Nat} (h : hasRow w ⟨b, k, none⟩ n = true) (hn : 0 < n) : b < w.heap.size := by
  have := hasRow_iff.1 h 0 hn
  rw [Addr.add_lit] at this
  obtain ⟨v, hv⟩ := Option.isSome_iff_exists.1 this
  exact World.block_lt_of_cell? w ⟨b, k + 0, none⟩ hv

/-! ### a load, a store -/
def aggB (P : Program) (t : TypeId) : Bool := match P.underlying t with | some (.struct _) => true | some (.array _ _) => true | _ => false
theorem run_isAgg {P : Program} {t : TypeId} (h : aggB P t = true) (w : World) : (isAgg t).run P w = .ok true w := by
  unfold aggB at h
  split at h
  · rename_i hu; simp [isAgg, run_underlying hu]
  · rename_i hu; simp [isAgg, run_underlying hu]
  · cases h
theorem run_sizeOf' {P : Program} {t : TypeId} (h : aggB P t = true) (w : World) : (Go.sizeOf t).run P w = .ok (P.cellsOf t) w := by
  have hi : ∃ i, P.info? t = some i := by
    unfold aggB at h
    split at h
    · rename_i hu; exact info_of_underlying hu
    · rename_i hu; exact info_of_underlying hu
    · cases h
  obtain ⟨i, hi⟩ := hi
  simp [Go.sizeOf, typeInfo, Program.cellsOf, hi]
theorem run_loadVar_agg {P : Program} {t : TypeId} (h : aggB P t = true) {w : World} {a : Addr} (hr : hasRow w a (P.cellsOf t) = true) : (loadVar t a).run P w = .ok (.agg (rowAt w a (P.cellsOf t)).toArray) w := by
  have hl : (loadCells a (P.cellsOf t)).run P w = .ok (rowAt w a (P.cellsOf t)).toArray w := by
    rw [run_loadCells w a _ (fun i => (w.cell? (a.add i)).getD undef) (fun j hj => by
      obtain ⟨v, hv⟩ := Option.isSome_iff_exists.1 (hasRow_iff.1 hr j hj)
      rw [hv]; rfl)]
    rfl
  simp [loadVar, Sem.run_bind, run_isAgg h, run_sizeOf' h, hl]

/-- A load of an aggregate, as one word. -/
def ldR (P : Program) (t : TypeId) (v : Value) (w : World) : Result Next := (do pure (Next.value (← Instr.loadAt t v)) : Sem Next).run P w
theorem exec_load {P : Program} {t : TypeId} (_h : aggB P t = true) (ρ : Operand → Value) (d : Option Tmp) (x : Operand) (ty : TypeId) (p : String) (af : Array Edge) (g : Option (Nat × Bool)) (w : World) :
    Sem.run P (execOp ρ ⟨d, .load t x, ty, p, af, g⟩) w = ldR P t (ρ x) w := rfl
theorem ldR_ptr {P : Program} {t : TypeId} (h : aggB P t = true) {w : World} {a : Addr} (hr : hasRow w a (P.cellsOf t) = true) : ldR P t (.pointer (some a)) w = .ok (.value (.agg (rowAt w a (P.cellsOf t)).toArray)) w := by
  simp [ldR, Instr.loadAt, Instr.sureAddr, run_loadVar_agg h hr]

/-- What a load is where the row is not there. -/
def ldX (P : Program) (t : TypeId) (a : Addr) (w : World) : Result Next := ldR P t (.pointer (some a)) w
theorem ldR_ite {P : Program} {t : TypeId} (h : aggB P t = true) (w : World) (a : Addr) : ldR P t (.pointer (some a)) w = if hasRow w a (P.cellsOf t) = true then .ok (.value (.agg (rowAt w a (P.cellsOf t)).toArray)) w else ldX P t a w := by
  split
  · exact ldR_ptr h ‹_›
  · rfl

def oneB (cs : List Value) : Bool := cs.all fun v => v.oneCell'
/-- A store of an aggregate, as one word. -/
def stR (P : Program) (t : TypeId) (v x : Value) (w : World) : Result Next := (do Instr.storeAt t v x; pure Next.skip : Sem Next).run P w
theorem exec_store {P : Program} {t : TypeId} (_h : aggB P t = true) (ρ : Operand → Value) (d : Option Tmp) (x y : Operand) (ty : TypeId) (p : String) (af : Array Edge) (g : Option (Nat × Bool)) (w : World) :
    Sem.run P (execOp ρ ⟨d, .store t x y, ty, p, af, g⟩) w = stR P t (ρ x) (ρ y) w := rfl
theorem stR_ptr {P : Program} {t : TypeId} (h : aggB P t = true) {w : World} {b k : Nat} {cs : List Value} (hn : cs.length = P.cellsOf t) (hr : hasRow w ⟨b, k, none⟩ cs.length = true) (hf : freeRow w ⟨b, k, none⟩ cs.length = true) (h1 : oneB cs = true) :
    stR P t (.pointer (some ⟨b, k, none⟩)) (.agg cs.toArray) w = .ok .skip (w.setCells b k cs) := by
  have hs := run_storeCells_cells (P := P) b k cs 0 w (fun c hc => by have := hasRow_iff.1 hr c hc; rw [Addr.add_lit] at this; simpa using this) (fun c hc => by have := freeRow_iff.1 hf c hc; rw [Addr.add_lit] at this; simpa using this) (fun v hv => by simpa using List.all_eq_true.1 h1 v hv)
  rw [Nat.add_zero] at hs
  simp [stR, Instr.storeAt, Instr.sureAddr, storeVar, Value.cells, Sem.run_bind, run_sizeOf' h, hn, hs]

/-- What a store is where it does not fit. -/
def stX (P : Program) (t : TypeId) (b k : Nat) (cs : List Value) (w : World) : Result Next := stR P t (.pointer (some ⟨b, k, none⟩)) (.agg cs.toArray) w
theorem stR_ite {P : Program} {t : TypeId} (h : aggB P t = true) (w : World) (b k : Nat) (cs : List Value) : stR P t (.pointer (some ⟨b, k, none⟩)) (.agg cs.toArray) w =
    if cs.length = P.cellsOf t ∧ hasRow w ⟨b, k, none⟩ cs.length = true ∧ freeRow w ⟨b, k, none⟩ cs.length = true ∧ oneB cs = true then .ok .skip (w.setCells b k cs) else stX P t b k cs w := by
  split
  · rename_i g; exact stR_ptr h g.1 g.2.1 g.2.2.1 g.2.2.2
  · rfl

/-- A block that is laid whole. -/
theorem setCells_whole (w : World) (t : TypeId) (b : Nat) (z cs : List Value) (hb : b = w.heap.size) (hz : cs.length = z.length) : (w.alloc (.cells z.toArray t)).setCells b 0 cs = w.alloc (.cells cs.toArray t) := by
  have gen : ∀ (l pre post : List Value), post.length = l.length → (w.alloc (.cells (pre ++ post).toArray t)).setCells b pre.length l = w.alloc (.cells (pre ++ l).toArray t) := by
    intro l
    induction l with
    | nil => intro pre post h; obtain rfl : post = [] := List.length_eq_zero_iff.1 h; rfl
    | cons v l ih =>
      intro pre post h
      obtain ⟨p, post', rfl⟩ : ∃ p q, post = p :: q := by cases post with | nil => simp at h | cons p q => exact ⟨p, q, rfl⟩
      show (World.setCells ((w.alloc _).setCell ⟨b, pre.length, none⟩ v) b (pre.length + 1) l) = _
      rw [World.setCell_alloc_at _ _ _ _ _ hb]
      have e : (pre ++ p :: post').toArray.setIfInBounds pre.length v = ((pre ++ [v]) ++ post').toArray := by simp
      rw [e]
      have := ih (pre ++ [v]) post' (by simpa using h)
      simp only [List.length_append, List.length_cons, List.length_nil, Nat.zero_add, List.append_assoc, List.cons_append, List.nil_append] at this ⊢
      exact this
  simpa using gen cs [] z hz.symm

/-! ### bytes as vectors -/
def bC {n : Nat} (x : Vector UInt8 n) : List Value := x.toList.map fun b => .int .u8 (b.toNat : Int)
theorem bC_length {n : Nat} (x : Vector UInt8 n) : (bC x).length = n := by simp [bC]
theorem bC_inj {n : Nat} {x y : Vector UInt8 n} (h : bC x = bC y) : x = y := by
  apply Vector.toList_inj.1
  unfold bC at h
  exact List.map_inj_right (fun a b hab => by simp at hab; exact UInt8.toNat_inj.1 (by omega)) |>.1 h
theorem oneB_bC {n : Nat} (x : Vector UInt8 n) : oneB (bC x) = true := by
  simp only [oneB, bC, List.all_map, List.all_eq_true]; intro b _; rfl
theorem oneB_append (a b : List Value) : oneB (a ++ b) = (oneB a && oneB b) := by simp [oneB]
theorem oneB_cons (a : Value) (b : List Value) : oneB (a :: b) = (a.oneCell' && oneB b) := by simp [oneB]
theorem oneB_nil : oneB [] = true := rfl
end Go.Proofs.YteknmbijodbfoaaGreatDoor

namespace Go.Proofs.YteknmbijodbfoaaGreatDoor
open Go.RowKit

section
variable {P : Program}
theorem run_eqItems_bytes (w : World) (d : Nat) {e : TypeId} (he : P.underlying e = some (.int .u8)) {n : Nat} (x y : Vector UInt8 n) : ∀ (is : List Nat), (∀ i ∈ is, i < n) →
    (Op.eqItems (d + 1) e 1 (bC x).toArray (bC y).toArray is).run P w = .ok (is.all fun i => x.toList[i]? == y.toList[i]?) w
  | [], _ => by simp [Op.eqItems]
  | i :: is, h => by
    have hi : i < n := h i (by simp)
    have ih := run_eqItems_bytes w d he x y is (fun j hj => h j (by simp [hj]))
    have hp : ∀ z : Vector UInt8 n, (part e (bC z).toArray (i * 1)).run P w = .ok (.int .u8 (z[i].toNat : Int)) w := by
      intro z
      have hg : (bC z).toArray[i]? = some (.int .u8 (z[i].toNat : Int)) := by simp [bC, hi]
      simp [part, isAgg, run_underlying he, hg]
    simp only [Op.eqItems, Sem.run_bind, hp, Result.andThen_ok, run_equalIn_int w d e .u8 .u8 _ _ he]
    have e1 : (x.toList[i]? == y.toList[i]?) = (((x[i].toNat : Int)) == (y[i].toNat : Int)) := by
      rw [Bool.eq_iff_iff]
      simp only [beq_iff_eq, Vector.getElem?_toList, Vector.getElem?_eq_getElem hi, Option.some.injEq]
      exact ⟨fun h => by rw [h], fun h => UInt8.toNat_inj.1 (by omega)⟩
    rw [List.all_cons, e1]
    cases hb : ((x[i].toNat : Int) == (y[i].toNat : Int))
    · simp
    · simpa using ih

theorem all_bytes {n : Nat} (x y : Vector UInt8 n) : ((List.range n).all fun i => x.toList[i]? == y.toList[i]?) = (x == y) := by
  rw [Bool.eq_iff_iff]
  simp only [List.all_eq_true, List.mem_range, beq_iff_eq]
  constructor
  · intro h
    apply Vector.ext
    intro i hi
    have := h i hi
    simpa [Vector.getElem?_toList, Vector.getElem?_eq_getElem hi] using this
  · intro h i _; rw [h]

theorem run_equalIn_bytes (w : World) (d : Nat) {t e : TypeId} {n : Nat} (hu : P.underlying t = some (.array n e)) (he : P.underlying e = some (.int .u8)) (c1 : P.cellsOf e = 1) (x y : Vector UInt8 n) :
    (Op.equalIn (d + 2) t (.agg (bC x).toArray) (.agg (bC y).toArray)).run P w = .ok (x == y) w := by
  obtain ⟨i, hi⟩ := info_of_underlying he
  rw [run_equalIn_array w (d + 1) _ _ hu hi, c1, run_eqItems_bytes w d he x y _ (fun i hi => by simpa using hi), all_bytes]
theorem eql_bytes {t e : TypeId} {n : Nat} (hu : P.underlying t = some (.array n e)) (he : P.underlying e = some (.int .u8)) (c1 : P.cellsOf e = 1) (x y : Vector UInt8 n) (w : World) :
    Sem.run P (binOp .eql t (.agg (bC x).toArray) (.agg (bC y).toArray)) w = .ok (.bool (x == y)) w := by
  rw [run_eql_struct, run_equalIn_bytes w 9998 hu he c1]; rfl
theorem neq_bytes {t e : TypeId} {n : Nat} (hu : P.underlying t = some (.array n e)) (he : P.underlying e = some (.int .u8)) (c1 : P.cellsOf e = 1) (x y : Vector UInt8 n) (w : World) :
    Sem.run P (binOp .neq t (.agg (bC x).toArray) (.agg (bC y).toArray)) w = .ok (.bool (!(x == y))) w := by
  rw [run_neq_struct, run_equalIn_bytes w 9998 hu he c1]; rfl
end

/-! ### records -/
abbrev Id := Vector UInt8 32
abbrev Aut := Vector UInt8 16
structure Canc where
  id : Id
  author : Aut
  date : Int
  target : Id
structure Rw where
  id : Id
  author : Aut
  date : Int
  groups : Value
  refs : Value
  sup : Id
structure Dfn where
  id : Id
  author : Aut
  group : ByteArray
  version : Int
  removed : Bool
  moderated : Bool
  mods : Value
  text : ByteArray
def cancC (y : Canc) : List Value := bC y.id ++ (bC y.author ++ (.int .i64 y.date :: bC y.target))
def rwC (x : Rw) : List Value := bC x.id ++ (bC x.author ++ (.int .i64 x.date :: x.groups :: x.refs :: bC x.sup))
def dfnC (d : Dfn) : List Value := bC d.id ++ (bC d.author ++ [.string d.group, .int .i64 d.version, .bool d.removed, .bool d.moderated, d.mods, .string d.text])
theorem cancC_length (y : Canc) : (cancC y).length = 81 := by simp [cancC, bC_length]
theorem rwC_length (x : Rw) : (rwC x).length = 83 := by simp [rwC, bC_length]
theorem dfnC_length (d : Dfn) : (dfnC d).length = 54 := by simp [dfnC, bC_length]

theorem rowOf_app_l (a b : List Value) (n : Nat) (h : a.length = n) : rowOf (a ++ b) 0 n = a := by
  unfold rowOf; rw [List.drop_zero, List.take_append_of_le_length (by omega), List.take_of_length_le (by omega)]
theorem rowOf_app_r (a b : List Value) (k n m : Nat) (h : a.length = m) (hk : m ≤ k) : rowOf (a ++ b) k n = rowOf b (k - m) n := by
  unfold rowOf; rw [List.drop_append, List.drop_of_length_le (by omega), List.nil_append, h]
theorem rowOf_cons (a : Value) (b : List Value) (k n : Nat) (hk : 0 < k) : rowOf (a :: b) k n = rowOf b (k - 1) n := by
  unfold rowOf; obtain ⟨j, rfl⟩ := Nat.exists_eq_succ_of_ne_zero (Nat.ne_of_gt hk); rfl
theorem rowOf_all (a : List Value) (n : Nat) (h : a.length = n) : rowOf a 0 n = a := by
  unfold rowOf; rw [List.drop_zero, List.take_of_length_le (by omega)]
theorem get_app_r (a b : List Value) (k m : Nat) (h : a.length = m) (hk : m ≤ k) : (a ++ b)[k]? = b[k - m]? := by
  rw [List.getElem?_append_right (by omega), h]

theorem get_of {l : List Value} {k : Nat} {v : Value} (h : l[k]? = some v) (hk : k < l.length) : l[k] = v := by rw [List.getElem?_eq_getElem hk] at h; exact Option.some.inj h
section
variable (y : Canc) (x : Rw) (d : Dfn)
theorem canc_id : rowOf (cancC y) 0 32 = bC y.id := rowOf_app_l _ _ _ (bC_length _)
theorem canc_author : rowOf (cancC y) 32 16 = bC y.author := by
  unfold cancC; rw [rowOf_app_r _ _ _ _ 32 (bC_length _) (by decide), rowOf_app_l _ _ _ (bC_length _)]
theorem canc_date : (cancC y)[48]? = some (.int .i64 y.date) := by
  unfold cancC; rw [get_app_r _ _ _ 32 (bC_length _) (by decide), get_app_r _ _ _ 16 (bC_length _) (by decide)]; rfl
theorem canc_target : rowOf (cancC y) 49 32 = bC y.target := by
  unfold cancC; rw [rowOf_app_r _ _ _ _ 32 (bC_length _) (by decide), rowOf_app_r _ _ _ _ 16 (bC_length _) (by decide), rowOf_cons _ _ _ _ (by decide), rowOf_all _ _ (bC_length _)]
theorem canc_whole : rowOf (cancC y) 0 81 = cancC y := rowOf_all _ _ (cancC_length y)
theorem canc_one : oneB (cancC y) = true := by simp [cancC, oneB_append, oneB_cons, oneB_bC, Value.oneCell']
theorem rw_id : rowOf (rwC x) 0 32 = bC x.id := rowOf_app_l _ _ _ (bC_length _)
theorem rw_author : rowOf (rwC x) 32 16 = bC x.author := by
  unfold rwC; rw [rowOf_app_r _ _ _ _ 32 (bC_length _) (by decide), rowOf_app_l _ _ _ (bC_length _)]
theorem rw_date : (rwC x)[48]? = some (.int .i64 x.date) := by
  unfold rwC; rw [get_app_r _ _ _ 32 (bC_length _) (by decide), get_app_r _ _ _ 16 (bC_length _) (by decide)]; rfl
theorem rw_groups : (rwC x)[49]? = some x.groups := by
  unfold rwC; rw [get_app_r _ _ _ 32 (bC_length _) (by decide), get_app_r _ _ _ 16 (bC_length _) (by decide)]; rfl
theorem rw_refs : (rwC x)[50]? = some x.refs := by
  unfold rwC; rw [get_app_r _ _ _ 32 (bC_length _) (by decide), get_app_r _ _ _ 16 (bC_length _) (by decide)]; rfl
theorem rw_sup : rowOf (rwC x) 51 32 = bC x.sup := by
  unfold rwC; rw [rowOf_app_r _ _ _ _ 32 (bC_length _) (by decide), rowOf_app_r _ _ _ _ 16 (bC_length _) (by decide), rowOf_cons _ _ _ _ (by decide), rowOf_cons _ _ _ _ (by decide), rowOf_cons _ _ _ _ (by decide), rowOf_all _ _ (bC_length _)]
theorem rw_whole : rowOf (rwC x) 0 83 = rwC x := rowOf_all _ _ (rwC_length x)
theorem dfn_id : rowOf (dfnC d) 0 32 = bC d.id := rowOf_app_l _ _ _ (bC_length _)
theorem dfn_author : rowOf (dfnC d) 32 16 = bC d.author := by
  unfold dfnC; rw [rowOf_app_r _ _ _ _ 32 (bC_length _) (by decide), rowOf_app_l _ _ _ (bC_length _)]
theorem dfn_at (k : Nat) (h : 48 ≤ k) : (dfnC d)[k]? = [Value.string d.group, .int .i64 d.version, .bool d.removed, .bool d.moderated, d.mods, .string d.text][k - 48]? := by
  unfold dfnC; rw [get_app_r _ _ _ 32 (bC_length _) (by omega), get_app_r _ _ _ 16 (bC_length _) (by omega), Nat.sub_sub]
theorem dfn_group : (dfnC d)[48]? = some (.string d.group) := dfn_at d 48 (by decide)
theorem dfn_version : (dfnC d)[49]? = some (.int .i64 d.version) := dfn_at d 49 (by decide)
theorem dfn_removed : (dfnC d)[50]? = some (.bool d.removed) := dfn_at d 50 (by decide)
theorem dfn_moderated : (dfnC d)[51]? = some (.bool d.moderated) := dfn_at d 51 (by decide)
theorem dfn_mods : (dfnC d)[52]? = some d.mods := dfn_at d 52 (by decide)
theorem dfn_text : (dfnC d)[53]? = some (.string d.text) := dfn_at d 53 (by decide)
theorem dfn_whole : rowOf (dfnC d) 0 54 = dfnC d := rowOf_all _ _ (dfnC_length d)
theorem canc_date' (h : 48 < (cancC y).length) : (cancC y)[48] = .int .i64 y.date := get_of (canc_date y) h
theorem rw_date' (h : 48 < (rwC x).length) : (rwC x)[48] = .int .i64 x.date := get_of (rw_date x) h
theorem rw_groups' (h : 49 < (rwC x).length) : (rwC x)[49] = x.groups := get_of (rw_groups x) h
theorem rw_refs' (h : 50 < (rwC x).length) : (rwC x)[50] = x.refs := get_of (rw_refs x) h
theorem dfn_group' (h : 48 < (dfnC d).length) : (dfnC d)[48] = .string d.group := get_of (dfn_group d) h
theorem dfn_version' (h : 49 < (dfnC d).length) : (dfnC d)[49] = .int .i64 d.version := get_of (dfn_version d) h
theorem dfn_removed' (h : 50 < (dfnC d).length) : (dfnC d)[50] = .bool d.removed := get_of (dfn_removed d) h
theorem dfn_moderated' (h : 51 < (dfnC d).length) : (dfnC d)[51] = .bool d.moderated := get_of (dfn_moderated d) h
theorem dfn_mods' (h : 52 < (dfnC d).length) : (dfnC d)[52] = d.mods := get_of (dfn_mods d) h
theorem dfn_text' (h : 53 < (dfnC d).length) : (dfnC d)[53] = .string d.text := get_of (dfn_text d) h
theorem dfn_setmods (v : Value) : (dfnC d).set 52 v = dfnC { d with mods := v } := by
  have h1 := bC_length d.id
  have h2 := bC_length d.author
  unfold dfnC
  rw [List.set_append_right _ _ (by omega), h1, List.set_append_right _ _ (by omega), h2]
  rfl
end
end Go.Proofs.YteknmbijodbfoaaGreatDoor

namespace Go.Proofs.YteknmbijodbfoaaGreatDoor
open Go.RowKit
@[go_sem] theorem aggId : aggB Tryz.prog 39 = true := by kernel_rfl
@[go_sem] theorem aggAut : aggB Tryz.prog 35 = true := by kernel_rfl
@[go_sem] theorem cellsId : Tryz.prog.cellsOf 39 = 32 := by kernel_rfl
@[go_sem] theorem cellsAut : Tryz.prog.cellsOf 35 = 16 := by kernel_rfl
theorem cellsByte : Tryz.prog.cellsOf 5 = 1 := by kernel_rfl
@[go_sem] theorem eqId (x y : Id) (w : World) : Sem.run Tryz.prog (Op.equalIn 10000 39 (.agg (bC x).toArray) (.agg (bC y).toArray)) w = .ok (x == y) w := run_equalIn_bytes w 9998 Tryz.underlying39 Tryz.underlying5 cellsByte x y
@[go_sem] theorem eqAut (x y : Aut) (w : World) : Sem.run Tryz.prog (Op.equalIn 10000 35 (.agg (bC x).toArray) (.agg (bC y).toArray)) w = .ok (x == y) w := run_equalIn_bytes w 9998 Tryz.underlying35 Tryz.underlying5 cellsByte x y
@[go_sem] theorem guardId : Tryz.prog.eqGuardType Tryz.prog.depth 39 = false := by kernel_rfl
@[go_sem] theorem guardAut : Tryz.prog.eqGuardType Tryz.prog.depth 35 = false := by kernel_rfl
attribute [go_sem ↓] exec_load exec_store
attribute [go_sem] ldR_ite stR_ite rowAt_past hasRow_past freeRow_past rowAt_at hasRow_at freeRow_at rowAt_drew hasRow_drew freeRow_drew rowAt_drewN hasRow_drewN setCells_whole
  cancC_length rwC_length dfnC_length bC_length canc_id canc_author canc_date canc_target canc_whole canc_one rw_id rw_author rw_date rw_groups rw_refs rw_sup rw_whole dfn_id dfn_author dfn_group dfn_version dfn_removed dfn_moderated dfn_mods dfn_text dfn_whole
  oneB_bC rowOf_all canc_date' rw_date' rw_groups' rw_refs' dfn_group' dfn_version' dfn_removed' dfn_moderated' dfn_mods' dfn_text'
end Go.Proofs.YteknmbijodbfoaaGreatDoor

namespace Go.Proofs.YteknmbijodbfoaaGreatDoor
section
variable {P : Program} {ops : Array Oper} {md : Region.Mode} {C : World → Prop}

/-- The head of a region, whatever order is picked: f operations of it are still to come, then L. -/
def Hd (P : Program) (md : Region.Mode) (ops : Array Oper) (C : World → Prop) (n : Nat) (L : Array Bool → Act → Prop) : Nat → Array Bool → Act → Prop
  | 0, l, a => L l a
  | f + 1, l, a => Region.ready md ops l ≠ [] ∧ ∀ i ∈ Region.ready md ops l, i < n ∧ qOp P ops C i (Hd P md ops C n L f (l.setIfInBounds i true)) a

theorem Hd.any {n g : Nat} {L : Array Bool → Act → Prop} {Q : Exit → Act → World → Prop} (hL : ∀ l a w, C w → L l a → wpAny P md ops Q g l a w) :
    ∀ (f : Nat) (l : Array Bool) (a : Act) (w : World), C w → Hd P md ops C n L f l a → wpAny P md ops Q (f + g) l a w := by
  intro f
  induction f with
  | zero => intro l a w hw h; rw [Nat.zero_add]; exact hL l a w hw h
  | succ f ih =>
    intro l a w hw h
    rw [Nat.add_right_comm]
    exact ⟨fun h0 => absurd h0 h.1, fun i hi => wpOp_of_qOp hw (fun a' w' hw' h' => ih _ a' w' hw' h') (h.2 i hi).2⟩

/-- An operation of the head that may come up now may be taken first. -/
theorem Hd.first {n i : Nat} {oi : Oper} {v : Value} {L : Array Bool → Act → Prop} (hi : ops[i]? = some oi) (hsel : ∀ (j : Nat) (o : Oper) cs b, ops[j]? = some o → o.op ≠ .select cs b)
    (hs : Region.sinkB md ops n = true) (hc : Region.chainB md ops n = true) (hn : n < ops.size) (hin : i < n) (hdone : ∀ l a, L l a → ∀ j ∈ Region.ready md ops l, n ≤ j) (f : Nat) :
    ∀ (l : Array Bool) (a : Act), HeadInv md ops n l →
      (∀ j oj, ops[j]? = some oj → j ≠ i → l.getD j true = false → (∀ e ∈ oj.after, Region.binds md e = true → e.on ≠ i) → oi.apart ops oj = true) →
      i ∈ Region.ready md ops l → YieldsIn P ops C oi v a → Hd P md ops C n L f (l.setIfInBounds i true) (a.put oi.dst v) → Hd P md ops C n L (f + 1) l a := by
  induction f with
  | zero =>
    intro l a inv _ hr hy H
    have hun := (mem_ready.1 hr).1
    refine ⟨List.ne_nil_of_mem hr, fun j hj => ?_⟩
    have hjn : j < n := Nat.lt_of_not_le fun h => tail_waits hs hc hn inv _ i rfl hin hun j h hj
    by_cases e : j = i
    · exact ⟨hjn, by rw [e]; exact hy.qOp hi H⟩
    · exact absurd (hdone _ _ H j (ready_mono hj e)) (by omega)
  | succ f ih =>
    intro l a inv hfree hr hy H
    have hun := (mem_ready.1 hr).1
    refine ⟨List.ne_nil_of_mem hr, fun j hj => ?_⟩
    have hjn : j < n := Nat.lt_of_not_le fun h => tail_waits hs hc hn inv _ i rfl hin hun j h hj
    by_cases e : j = i
    · exact ⟨hjn, by rw [e]; exact hy.qOp hi H⟩
    · obtain ⟨hju, oj, hoj, hall⟩ := mem_ready.1 hj
      have hap := hfree j oj hoj e hju fun x hx hb hon => by
        have := hall x hx hb
        rw [hon, getD_both hun] at this
        cases this
      refine ⟨hjn, qOp_mono (fun a' h3 => ih (l.setIfInBounds j true) a' (inv.set hj hjn) ?_ (ready_mono hr (Ne.symm e)) h3.1 ?_)
        (qOp_put hoj hap (fun cs b => hsel i oi cs b hi) (fun cs b => hsel j oj cs b hoj) hy (H.2 j (ready_mono hj e)).2)⟩
      · intro k ok hk hki hkun hno
        refine hfree k ok hk hki ?_ hno
        by_cases ejk : j = k
        · rw [← ejk]; exact hju
        · rwa [getD_set_ne true ejk] at hkun
      · rw [Array.setIfInBounds_comm _ _ e]; exact h3.2

theorem Hd.lex {n g : Nat} {R : Act → Prop} (hsel : Region.noSelect ops = true) (hs : Region.sinkB md ops n = true) (hc : Region.chainB md ops n = true) (hn : n < ops.size) (h : List Oper) :
    ∀ (k : Nat) (l : Array Bool) (a : Act), (∀ j, j < h.length → h[j]? = ops[k + j]?) → k + h.length = n → HeadInv md ops n l → Region.lexHead md ops g h.length k l = true → wpQuiet P ops C R h a →
      Hd P md ops C n (fun l' a' => Region.seqB md ops g n l' = true ∧ R a') h.length l a := by
  induction h with
  | nil =>
    intro k l a _ hk _ hB hq
    obtain rfl : k = n := by simpa using hk
    exact ⟨hB, hq⟩
  | cons o h ih =>
    intro k l a hl hk inv hB hq
    have h0 : ops[k]? = some o := by simpa using (hl 0 (by simp)).symm
    simp only [List.length_cons, Region.lexHead, Bool.and_eq_true] at hB hk
    have hr : k ∈ Region.ready md ops l := by simpa using hB.1.1
    have hkn : k < n := by omega
    obtain ⟨v, hy, hK⟩ := yieldsIn_of_qOp (K := wpQuiet P ops C R h) (C := C) (P := P) h0 (by unfold qOp; simp only [h0]; exact hq)
    refine Hd.first h0 (Region.noSelect_spec hsel) hs hc hn hkn (fun l' a' hL => seqB_ready hL.1) h.length l a inv (Region.free_spec h0 hB.1.2) hr hy (ih (k + 1) _ _ (fun j hj => ?_) (by omega) (inv.set hr hkn) hB.2 hK)
    have := hl (j + 1) (by simp; omega)
    simpa [Nat.add_assoc, Nat.add_comm 1 j] using this

/-- THE LAW: the first n operations are quiet in the class C, in the order of the text; the others come in one forced order, from whatever world of C. -/
theorem wp_region_tail {id : Nat} {Q : Exit → Act → World → Prop} {a : Act} {w : World} {l : List Oper} (n : Nat) (C : World → Prop) (hm : P.follows .mixedOrders = true) (hB : Region.lexTailB .any l.toArray n = true) (hC : C w.drew)
    (h : wpQuiet P l.toArray C (fun a' => ∀ w', C w' → wpList P l.toArray Q (l.drop n) a' w') (l.take n) a) : (Code.region id l.toArray true).wp P Q a w := by
  simp only [Region.lexTailB, Bool.and_eq_true, decide_eq_true_eq] at hB
  obtain ⟨⟨⟨⟨hsel, hn⟩, hs⟩, hc⟩, hlex⟩ := hB
  have htl : (l.take n).length = n := by have : n < l.length := by simpa using hn
                                         simp; omega
  have hdl : (l.drop n).length = l.toArray.size - n := by simp
  have inv0 : HeadInv .any l.toArray n (Array.replicate l.toArray.size false) :=
    ⟨by simp, fun j oj _ hl => (by rw [getD_replicate_false] at hl; cases hl), fun t _ ht => getD_in (by simpa using ht) (getD_replicate_false _ _)⟩
  have H := Hd.lex (md := .any) (g := l.toArray.size - n) (C := C) hsel hs hc hn (l.take n) 0 _ a (fun j hj => by
    have : j < n := by rwa [htl] at hj
    simp [this]) (by rw [htl, Nat.zero_add]) inv0 (by rw [htl]; exact hlex) h
  refine wp_region_any hm ?_
  have key := Hd.any (Q := Q) (g := l.toArray.size - n) (fun l' a' w' hw' hL => by
    have := wpAny_of_seq (md := .any) (Q' := Q) (l.drop n) n l' a' w' (fun j => by simp [List.getElem?_drop]) (by rw [hdl]; exact hL.1) (hL.2 w' hw')
    rwa [hdl] at this) _ _ _ w.drew hC H
  rw [htl, Nat.add_sub_of_le (Nat.le_of_lt hn)] at key
  exact key
end
end Go.Proofs.YteknmbijodbfoaaGreatDoor

namespace Go.Proofs.YteknmbijodbfoaaGreatDoor
open Go.RowKit

/-- w' is w with new blocks and more draws. -/
def Lay (w w' : World) : Prop := Gr w w' ∧ w.drawn ≤ w'.drawn
theorem Lay.refl (w : World) : Lay w w := ⟨Gr.refl w, Nat.le_refl _⟩
theorem Lay.trans {a b c : World} (h : Lay a b) (k : Lay b c) : Lay a c := ⟨h.1.trans k.1, Nat.le_trans h.2 k.2⟩
theorem Lay.alloc {a w : World} (h : Lay a w) (o : Obj) : Lay a (w.alloc o) := ⟨h.1.alloc o, h.2⟩
theorem Lay.drew {a w : World} (h : Lay a w) : Lay a w.drew := ⟨h.1.drew, Nat.le_succ_of_le h.2⟩
theorem Lay.drewN {a w : World} (h : Lay a w) (n : Nat) : Lay a (w.drewN n) := ⟨h.1.drewN n, Nat.le_trans h.2 (Nat.le_add_right _ _)⟩
theorem Lay.grow {w w' : World} (h : Lay w w') : ∃ q os, w' = Sort.grow (w.drewN q) os := by
  obtain ⟨g, hd⟩ := h
  have g1 : w'.os = w.os := Below.os g
  have g2 : w'.tape = w.tape := Below.tape g
  have g3 : w'.output = w.output := Below.output g
  refine ⟨w'.drawn - w.drawn, w'.heap.extract w.heap.size w'.heap.size, ?_⟩
  have hh : w'.heap = w.heap ++ w'.heap.extract w.heap.size w'.heap.size := by
    apply Array.ext_getElem?
    intro i
    have hs := g.size
    by_cases hi : i < w.heap.size
    · rw [g.block hi, Array.getElem?_append, if_pos hi]
    · rw [Array.getElem?_append, if_neg hi, Array.getElem?_extract]
      by_cases h2 : i < w'.heap.size
      · rw [if_pos (by omega), show w.heap.size + (i - w.heap.size) = i by omega]
      · rw [if_neg (by omega), Array.getElem?_eq_none (by omega)]
  cases w'; cases w
  simp only [Sort.grow, World.drewN, World.mk.injEq]
  simp only at hh hd g1 g2 g3
  exact ⟨hh, g2, by omega, g1, g3⟩
theorem Lay.of_grow (w : World) (q : Nat) (os : Array Obj) : Lay w (Sort.grow (w.drewN q) os) :=
  ⟨⟨rfl, rfl, rfl, by simp, fun k hk => by rw [Sort.heap_grow_old _ _ (by exact hk)]; rfl⟩, Nat.le_add_right _ _⟩

/-- A callee that leaves the world alone, met in a region whose order is open. -/
theorem still_call {P : Program} {f : FuncId} {args : Array Value} {w : World} {n : Nat} {v : Value}
    (h : Calls P f args (w.drewN n) fun e w' => e = .returned v ∧ w.drewN n = w') : Calls P f args (w.drewN n) fun e w'' => e = .returned v ∧ ∃ m, w'' = w.drewN m :=
  h.mono fun _ _ hh => ⟨hh.1, n, hh.2.symm⟩

def cmpI (x y : Int) : Int := if x < y then -1 else if y < x then 1 else 0
def cmpS (x y : ByteArray) : Int := if Op.bytesLess x.toList y.toList = true then -1 else if (x.toList == y.toList) = true then 0 else 1
def orI (x y : Int) : Int := if x = 0 then y else x
def cmpB {n : Nat} (x y : Vector UInt8 n) : Int := Lib.compareBytes x.toList y.toList

set_option maxHeartbeats 400000 in
theorem isNaNI (x : Int) (w : World) : Calls Tryz.prog 172 #[.int .i64 x] w fun e w' => e = .returned (.bool false) ∧ w = w' := by
  go_enter Tryz.func172, Tryz.ntmps172
  go_wp2
  go_ret
  exact ⟨by simp, rfl⟩
set_option maxHeartbeats 400000 in
theorem compareI (x y : Int) (w : World) : Calls Tryz.prog 137 #[.int .i64 x, .int .i64 y] w fun e w' => e = .returned (.int .i64 (cmpI x y)) ∧ w = w' := by
  go_enter Tryz.func137, Tryz.ntmps137
  go_wp2_with (go_at_call 172; refine (isNaNI _ _).mono ?_; rintro e w' ⟨rfl, rfl⟩)
  all_goals
    go_ret
    refine ⟨ret_int ?_, rfl⟩
    unfold cmpI
    repeat' split
    all_goals (try omega)
/-- cmp.Or of two. -/
theorem or2 (b : Nat) (x y : Int) (w : World) (h0 : w.cell? ⟨b, 0, none⟩ = some (.int .i64 x)) (h1 : w.cell? ⟨b, 1, none⟩ = some (.int .i64 y)) :
    Calls Tryz.prog 136 #[.slice (some ⟨b, 0, none⟩) 2 2] w fun e w' => e = .returned (.int .i64 (orI x y)) ∧ w = w' := by
  by_cases hx : x = 0
  · subst hx
    by_cases hy : y = 0
    · subst hy
      have e1 : orI 0 0 = 0 := rfl
      have E1 := Lib.hid e1
      clear e1
      go_enter Tryz.func136, Tryz.ntmps136
      go_wp2
      refine wp_loop_rounds 3 ?_
      rw [rounds_succ]
      go_wp2
      rw [rounds_succ]
      go_wp2
      rw [rounds_succ]
      go_wp2
      go_ret
      exact ⟨ret_int E1.out.symm, rfl⟩
    · have e1 : orI 0 y = y := rfl
      have E1 := Lib.hid e1
      have hb : (y != 0) = true := by simpa using hy
      clear e1 hy
      go_enter Tryz.func136, Tryz.ntmps136
      go_wp2
      refine wp_loop_rounds 2 ?_
      rw [rounds_succ]
      go_wp2
      rw [rounds_succ]
      go_wp2
      go_ret
      exact ⟨ret_int E1.out.symm, rfl⟩
  · have e1 : orI x y = x := by unfold orI; rw [if_neg hx]
    have E1 := Lib.hid e1
    have hb : (x != 0) = true := by simpa using hx
    clear e1 hx
    go_enter Tryz.func136, Tryz.ntmps136
    go_wp2
    refine wp_loop_rounds 1 ?_
    rw [rounds_succ]
    go_wp2
    go_ret
    exact ⟨ret_int E1.out.symm, rfl⟩

/-! ### bytes -/
/-- The bytes x lie from a on. -/
def BytesAt (w : World) (b k : Nat) (x : List UInt8) : Prop := ∀ j (h : j < x.length), w.cell? ⟨b, k + j, none⟩ = some (.int .u8 (x[j].toNat : Int))
theorem cmpL_step (x y : List UInt8) (k : Nat) (hx : k < x.length) (hy : k < y.length) : Lib.compareBytes (x.drop k) (y.drop k) = orI (cmpI (x[k].toNat : Int) (y[k].toNat : Int)) (Lib.compareBytes (x.drop (k + 1)) (y.drop (k + 1))) := by
  rw [List.drop_eq_getElem_cons hx, List.drop_eq_getElem_cons hy]
  rw [Lib.compareBytes]
  generalize Lib.compareBytes (List.drop (k + 1) x) (List.drop (k + 1) y) = r
  rcases Nat.lt_trichotomy x[k].toNat y[k].toNat with c | c | c
  · have e : cmpI (x[k].toNat : Int) (y[k].toNat : Int) = -1 := by unfold cmpI; rw [if_pos (by omega)]
    rw [e, if_pos (UInt8.lt_iff_toNat_lt.2 c)]; rfl
  · have e : cmpI (x[k].toNat : Int) (y[k].toNat : Int) = 0 := by unfold cmpI; rw [if_neg (by omega), if_neg (by omega)]
    rw [e, if_neg (fun h => by have := UInt8.lt_iff_toNat_lt.1 h; omega), if_neg (fun h => by have := UInt8.lt_iff_toNat_lt.1 h; omega)]; rfl
  · have e : cmpI (x[k].toNat : Int) (y[k].toNat : Int) = 1 := by unfold cmpI; rw [if_neg (by omega), if_pos (by omega)]
    rw [e, if_neg (fun h => by have := UInt8.lt_iff_toNat_lt.1 h; omega), if_pos (UInt8.lt_iff_toNat_lt.2 c)]; rfl
theorem cmpI_ne {x y : UInt8} (h : x ≠ y) : cmpI (x.toNat : Int) (y.toNat : Int) ≠ 0 := by
  unfold cmpI
  have : x.toNat ≠ y.toNat := fun e => h (UInt8.toNat_inj.1 e)
  repeat' split
  all_goals omega
theorem cmpI_self (x : Int) : cmpI x x = 0 := by unfold cmpI; simp

theorem bytesAt_new (w : World) (n t b : Nat) (x : Vector UInt8 n) (hb : b = w.heap.size) : BytesAt (w.alloc (.cells (bC x).toArray t)) b 0 x.toList := by
  intro j hj
  rw [World.cell?_alloc_at _ _ _ _ hb]
  simp only [bC, Nat.zero_add]
  simp at hj ⊢
  simp [hj]
theorem BytesAt.gr {w w' : World} {b k : Nat} {x : List UInt8} (h : BytesAt w b k x) (hg : Gr w w') (hb : b < w.heap.size) : BytesAt w' b k x := fun j hj => (hg.cell (p := ⟨b, k + j, none⟩) hb).trans (h j hj)
end Go.Proofs.YteknmbijodbfoaaGreatDoor

namespace Go.Proofs.YteknmbijodbfoaaGreatDoor
open Go.RowKit

structure LD where
  n : Nat
  os : Array Obj
  deriving Inhabited
/-- w with draws and blocks. -/
def lw (w : World) (p : LD) : World := Sort.grow (w.drewN p.n) p.os
structure GD where
  d : Nat
  os : Array Obj
  deriving Inhabited
/-- w with blocks, at some count of draws. -/
def gw (w : World) (p : GD) : World := { w with heap := w.heap ++ p.os, drawn := p.d }

theorem heap_gw (w : World) (p : GD) {k : Nat} (h : k < w.heap.size) : (gw w p).heap[k]? = w.heap[k]? := by simp [gw, Array.getElem?_append, h]
theorem gr_gw (w : World) (p : GD) : Gr w (gw w p) := ⟨rfl, rfl, rfl, by simp [gw], fun _ hk => heap_gw w p hk⟩
theorem lay_lw (w : World) (p : LD) : Lay w (lw w p) := Lay.of_grow w p.n p.os
theorem Lay.lw {w w' : World} (h : Lay w w') : ∃ p : LD, w' = lw w p := by obtain ⟨q, os, hq⟩ := h.grow; exact ⟨⟨q, os⟩, hq⟩
theorem Gr.gw {w w' : World} (h : Gr w w') : ∃ p : GD, w' = gw w p := by
  have g1 : w'.os = w.os := Below.os h
  have g2 : w'.tape = w.tape := Below.tape h
  have g3 : w'.output = w.output := Below.output h
  refine ⟨⟨w'.drawn, w'.heap.extract w.heap.size w'.heap.size⟩, ?_⟩
  have hh : w'.heap = w.heap ++ w'.heap.extract w.heap.size w'.heap.size := by
    apply Array.ext_getElem?
    intro i
    have hs := h.size
    by_cases hi : i < w.heap.size
    · rw [h.block hi, Array.getElem?_append, if_pos hi]
    · rw [Array.getElem?_append, if_neg hi, Array.getElem?_extract]
      by_cases h2 : i < w'.heap.size
      · rw [if_pos (by omega), show w.heap.size + (i - w.heap.size) = i by omega]
      · rw [if_neg (by omega), Array.getElem?_eq_none (by omega)]
  cases w'; cases w
  simp only [Go.Proofs.YteknmbijodbfoaaGreatDoor.gw, World.mk.injEq]
  simp only at hh g1 g2 g3
  exact ⟨hh, g2, trivial, g1, g3⟩

@[go_sem] theorem cell_gw (w : World) (p : GD) (b k : Nat) (h : b < w.heap.size) : (gw w p).cell? ⟨b, k, none⟩ = w.cell? ⟨b, k, none⟩ := (gr_gw w p).cell h
@[go_sem] theorem frozen_gw (w : World) (p : GD) (b k : Nat) (h : b < w.heap.size) : (gw w p).frozen? ⟨b, k, none⟩ = w.frozen? ⟨b, k, none⟩ := (gr_gw w p).frozen h
@[go_sem] theorem rowAt_gw (w : World) (p : GD) (b k n : Nat) (h : b < w.heap.size) : rowAt (gw w p) ⟨b, k, none⟩ n = rowAt w ⟨b, k, none⟩ n := (gr_gw w p).rowAt h
@[go_sem] theorem hasRow_gw (w : World) (p : GD) (b k n : Nat) (h : b < w.heap.size) : hasRow (gw w p) ⟨b, k, none⟩ n = hasRow w ⟨b, k, none⟩ n := (gr_gw w p).hasRow h
@[go_sem] theorem cell_lw (w : World) (p : LD) (b k : Nat) (h : b < w.heap.size) : (lw w p).cell? ⟨b, k, none⟩ = w.cell? ⟨b, k, none⟩ := (lay_lw w p).1.cell h
@[go_sem] theorem frozen_lw (w : World) (p : LD) (b k : Nat) (h : b < w.heap.size) : (lw w p).frozen? ⟨b, k, none⟩ = w.frozen? ⟨b, k, none⟩ := (lay_lw w p).1.frozen h
@[go_sem] theorem rowAt_lw (w : World) (p : LD) (b k n : Nat) (h : b < w.heap.size) : rowAt (lw w p) ⟨b, k, none⟩ n = rowAt w ⟨b, k, none⟩ n := (lay_lw w p).1.rowAt h
@[go_sem] theorem hasRow_lw (w : World) (p : LD) (b k n : Nat) (h : b < w.heap.size) : hasRow (lw w p) ⟨b, k, none⟩ n = hasRow w ⟨b, k, none⟩ n := (lay_lw w p).1.hasRow h

/-- The classes. -/
def CL (w u : World) : Prop := ∃ p : LD, u = lw w p
theorem cl_drew (w : World) : ∃ p : LD, w.drew = lw w p := ⟨⟨1, #[]⟩, by simp [lw]; rfl⟩
theorem cg_drew (w : World) : ∃ p : GD, w.drew = gw w p := ⟨⟨w.drawn + 1, #[]⟩, by cases w; simp only [gw, Array.append_empty]; rfl⟩

section
variable {P : Program} {f : FuncId} {args : Array Value} {W : World} {v : Value}
theorem lay_call {p : LD} (h : Calls P f args (lw W p) fun e w' => e = .returned v ∧ Lay (lw W p) w') : Calls P f args (lw W p) fun e w'' => e = .returned v ∧ ∃ q : LD, w'' = lw W q :=
  h.mono fun _ _ ⟨he, hl⟩ => ⟨he, ((lay_lw W p).trans hl).lw⟩
theorem lay_same {p : LD} (h : Calls P f args (lw W p) fun e w' => e = .returned v ∧ lw W p = w') : Calls P f args (lw W p) fun e w'' => e = .returned v ∧ ∃ q : LD, w'' = lw W q :=
  h.mono fun _ _ ⟨he, hl⟩ => ⟨he, p, hl.symm⟩
theorem gr_call {p : GD} (h : Calls P f args (gw W p) fun e w' => e = .returned v ∧ Gr (gw W p) w') : Calls P f args (gw W p) fun e w'' => e = .returned v ∧ ∃ q : GD, w'' = gw W q :=
  h.mono fun _ _ ⟨he, hl⟩ => ⟨he, ((gr_gw W p).trans hl).gw⟩
theorem gr_same {p : GD} (h : Calls P f args (gw W p) fun e w' => e = .returned v ∧ gw W p = w') : Calls P f args (gw W p) fun e w'' => e = .returned v ∧ ∃ q : GD, w'' = gw W q :=
  h.mono fun _ _ ⟨he, hl⟩ => ⟨he, p, hl.symm⟩
end
end Go.Proofs.YteknmbijodbfoaaGreatDoor

namespace Go.Proofs.YteknmbijodbfoaaGreatDoor
open Go.RowKit

theorem run_loadBytes {P : Program} (w : World) (b : Nat) : ∀ (x : List UInt8) (k : Nat) (acc : ByteArray), BytesAt w b k x → (Extern.Bytes.loadBytes ⟨b, k, none⟩ x.length acc).run P w = .ok ⟨acc.data ++ x.toArray⟩ w
  | [], k, acc, _ => by simp [Extern.Bytes.loadBytes]
  | c :: x, k, acc, h => by
    have h0 := h 0 (by simp)
    have ih := run_loadBytes (P := P) w b x (k + 1) (acc.push c) (fun j hj => by
      have := h (j + 1) (by simpa using hj)
      rw [show k + 1 + j = k + (j + 1) by omega]; simpa using this)
    have e : (⟨b, k, none⟩ : Addr).add 1 = ⟨b, k + 1, none⟩ := Addr.add_lit b k 1
    simp only [Nat.add_zero, List.getElem_cons_zero] at h0
    have e2 : ((c.toNat : Int).toNat.toUInt8) = c := by simp
    simp only [List.length_cons, Extern.Bytes.loadBytes, Sem.run_bind, run_load, h0, Result.andThen, e, e2, ih]
    congr 1
    simp [ByteArray.push]

theorem run_compareBytes {P : Program} (w : World) (b1 k1 c1 b2 k2 c2 : Nat) (x y : List UInt8) (h1 : BytesAt w b1 k1 x) (h2 : BytesAt w b2 k2 y) :
    (Extern.BytealgCompare.compare #[.slice (some ⟨b1, k1, none⟩) x.length c1, .slice (some ⟨b2, k2, none⟩) y.length c2]).run P w = .ok (.int .i64 (Lib.compareBytes x y)) w := by
  change Sem.run P (do pure (goInt (Extern.BytealgCompare.cmp (← Extern.Bytes.bytesOf (.slice (some ⟨b1, k1, none⟩) x.length c1)) (← Extern.Bytes.bytesOf (.slice (some ⟨b2, k2, none⟩) y.length c2))))) w = _
  simp only [Extern.Bytes.bytesOf, Sem.run_bind, run_loadBytes w b1 x k1 _ h1, run_loadBytes w b2 y k2 _ h2, Sem.run_pure, Result.andThen]
  rw [Lib.cmp_eq]
  simp [goInt]

set_option maxRecDepth 100000 in
set_option maxHeartbeats 1000000 in
theorem bytesCompare (b1 k1 c1 b2 k2 c2 : Nat) (x y : List UInt8) (w : World) (h1 : BytesAt w b1 k1 x) (h2 : BytesAt w b2 k2 y) :
    Calls Tryz.prog 138 #[.slice (some ⟨b1, k1, none⟩) x.length c1, .slice (some ⟨b2, k2, none⟩) y.length c2] w fun e w' => e = .returned (.int .i64 (Lib.compareBytes x y)) ∧ w = w' := by
  have hr := Lib.hid (run_compareBytes (P := Tryz.prog) w b1 k1 c1 b2 k2 c2 x y h1 h2)
  clear h1 h2
  go_enter Tryz.func138, Tryz.ntmps138
  go_wp2_with fail
  rw [run_callFunc_extern Tryz.func173 (by kernel_rfl) (by kernel_rfl) (by kernel_rfl) (e := Extern.BytealgCompare.compare) (by kernel_rfl), hr.out]
  simp only [Result.andThen]
  rw [Oper.upon_value]
  go_wp2
  go_ret
  exact ⟨rfl, rfl⟩

theorem toList_len {n : Nat} (x : Vector UInt8 n) : x.toList.length = n := by simp

set_option maxRecDepth 100000 in
set_option maxHeartbeats 1000000 in
theorem msgidCompare (x y : Id) (w : World) : Calls Tryz.prog 139 #[.agg (bC x).toArray, .agg (bC y).toArray] w fun e w' => e = .returned (.int .i64 (cmpB x y)) ∧ Lay w w' := by
  have hb1 := bytesAt_new w 32 39 w.heap.size x rfl
  have hb1' : BytesAt ((w.alloc (.cells (bC x).toArray 39)).alloc (.cells (bC y).toArray 39)) w.heap.size 0 x.toList := hb1.gr ((Gr.refl _).alloc _) (by simp)
  have hb2 := bytesAt_new (w.alloc (.cells (bC x).toArray 39)) 32 39 (w.heap.size + 1) y (by simp)
  have hl : Lay w ((w.alloc (.cells (bC x).toArray 39)).alloc (.cells (bC y).toArray 39)) := ((Lay.refl w).alloc _).alloc _
  generalize hW : (w.alloc (.cells (bC x).toArray 39)).alloc (.cells (bC y).toArray 39) = W at *
  have HC := Lib.hid (fun n => bytesCompare w.heap.size 0 32 (w.heap.size + 1) 0 32 x.toList y.toList (W.drewN n) (fun j hj => hb1' j hj) (fun j hj => hb2 j hj))
  simp only [toList_len] at HC
  have HW := Lib.hid hW
  have HL := Lib.hid hl
  clear hb1 hb1' hb2 hl hW
  go_enter Tryz.func139, Tryz.ntmps139
  go_wp2_with fail
  rw [HW.out]
  go_quiet ((go_at_call 138; exact still_call (HC.out _)))
  go_wp2_with fail
  go_ret
  exact ⟨rfl, HL.out.drewN _⟩

/-- The order of cancellations, and of definitions. -/
def cfC (a b : Canc) : Int := orI (cmpI a.date b.date) (cmpB a.id b.id)
def cfP (a b : Dfn) : Int := orI (cmpI b.version a.version) (cmpB a.id b.id)
def cfD (a b : Dfn) : Int := orI (cmpS a.group b.group) (cfP a b)

theorem Lay.cellK {u u' : World} (h : Lay u u') {p : Addr} {v : Value} (hc : u.cell? p = some v) : u'.cell? p = some v := (h.1.cell (World.block_lt_of_cell? u p hc)).trans hc
theorem Lay.rangeK {u u' : World} (h : Lay u u') {b o : Nat} {cs : List Value} (hc : u.rangeAt b o cs) : u'.rangeAt b o cs := fun j v hv => h.cellK (hc j v hv)
theorem rangeAt_block {w : World} {b : Nat} {cs l : List Value} {t : TypeId} {fr : Nat × Nat} (h : w.heap[b]? = some (.cells cs.toArray t fr)) (k n : Nat) (_hn : k + n ≤ cs.length) (hl : rowOf cs k n = l) : w.rangeAt b k l := by
  intro j v hv
  rw [cell_block h]
  rw [← hl, rowOf, List.getElem?_take, List.getElem?_drop] at hv
  split at hv
  · exact hv
  · cases hv

/-- Two boxes. -/
theorem box2 (w : World) (t : TypeId) (A B : List Value) : Lay w ((w.alloc (.cells A.toArray t)).alloc (.cells B.toArray t)) ∧ w.heap.size + 1 < ((w.alloc (.cells A.toArray t)).alloc (.cells B.toArray t)).heap.size ∧
    ((w.alloc (.cells A.toArray t)).alloc (.cells B.toArray t)).heap[w.heap.size]? = some (.cells A.toArray t (0, 0)) ∧ ((w.alloc (.cells A.toArray t)).alloc (.cells B.toArray t)).heap[w.heap.size + 1]? = some (.cells B.toArray t (0, 0)) :=
  ⟨((Lay.refl w).alloc _).alloc _, by simp, heap_alloc2_old w _ _, heap_alloc2_new w _ _⟩

end Go.Proofs.YteknmbijodbfoaaGreatDoor

namespace Go.Proofs.YteknmbijodbfoaaGreatDoor
open Go.RowKit

/-- v is a slice whose elements, of n cells each, are the rows l. -/
def SlAt (w : World) (v : Value) (n : Nat) (l : List (List Value)) : Prop :=
  ∃ a cap, v = .slice a l.length cap ∧ l.length ≤ cap ∧ ∀ j (h : j < l.length), ∃ b k, a = some ⟨b, k, none⟩ ∧ b < w.heap.size ∧ hasRow w ⟨b, k + j * n, none⟩ n = true ∧ rowAt w ⟨b, k + j * n, none⟩ n = l[j]
theorem SlAt.gr {w w' : World} {v : Value} {n : Nat} {l : List (List Value)} (h : SlAt w v n l) (hg : Gr w w') : SlAt w' v n l := by
  obtain ⟨a, cap, hv, hc, hj⟩ := h
  refine ⟨a, cap, hv, hc, fun j hlt => ?_⟩
  obtain ⟨b, k, ha, hb, h1, h2⟩ := hj j hlt
  exact ⟨b, k, ha, Nat.lt_of_lt_of_le hb hg.size, (hg.hasRow hb).trans h1, (hg.rowAt hb).trans h2⟩
def AutsAt (w : World) (v : Value) (l : List Aut) : Prop := SlAt w v 16 (l.map bC)
theorem AutsAt.gr {w w' : World} {v : Value} {l : List Aut} (h : AutsAt w v l) (hg : Gr w w') : AutsAt w' v l := SlAt.gr h hg

def hasA (l : List Aut) (x : Aut) : Bool := l.any fun y => x == y
def hasTo (l : List Aut) (x : Aut) (k : Nat) : Bool := hasA (l.take k) x
theorem hasTo_succ (l : List Aut) (x : Aut) (k : Nat) (h : k < l.length) : hasTo l x (k + 1) = (hasTo l x k || x == l[k]) := by
  unfold hasTo hasA; rw [List.take_succ_eq_append_getElem h, List.any_append]; simp
theorem hasTo_all (l : List Aut) (x : Aut) (k : Nat) (h : l.length ≤ k) : hasTo l x k = hasA l x := by
  unfold hasTo; rw [List.take_of_length_le h]
theorem hasA_at (l : List Aut) (x : Aut) (k : Nat) (h : k < l.length) (hx : (x == l[k]) = true) : hasA l x = true := List.any_eq_true.2 ⟨l[k], List.getElem_mem h, hx⟩

/-- What slices.Index leaves: a number that is negative just if x is not there. -/
def IdxPost (l : List Aut) (x : Aut) (w : World) (e : Ending) (w' : World) : Prop := ∃ i : Int, e = .returned (.int .i64 i) ∧ (decide (0 ≤ i) = hasA l x) ∧ Lay w w'

end Go.Proofs.YteknmbijodbfoaaGreatDoor

namespace Go.Proofs.YteknmbijodbfoaaGreatDoor
open Go.RowKit

theorem flat_len {rows : List (List Value)} {size : Nat} (h : ∀ r ∈ rows, r.length = size) : rows.flatten.length = rows.length * size := by
  induction rows with
  | nil => simp
  | cons r rows ih => rw [List.flatten_cons, List.length_append, ih (fun x hx => h x (by simp [hx])), h r (by simp), List.length_cons, Nat.succ_mul, Nat.add_comm]
theorem flat_get {size : Nat} : ∀ {rows : List (List Value)}, (∀ r ∈ rows, r.length = size) → ∀ (j : Nat) (hj : j < rows.length), rowOf rows.flatten (j * size) size = rows[j]
  | r :: rows, h, 0, hj => by
    have hr := h r (by simp)
    rw [List.flatten_cons, Nat.zero_mul]; exact rowOf_app_l _ _ _ hr
  | r :: rows, h, j + 1, hj => by
    have hr := h r (by simp)
    rw [List.flatten_cons, rowOf_app_r _ _ _ _ size hr (by rw [Nat.succ_mul]; omega), Nat.succ_mul, Nat.add_sub_cancel]
    exact flat_get (fun x hx => h x (by simp [hx])) j (by simpa using hj)
theorem rowOf_take (cs : List Value) (k n m : Nat) (h : k + n ≤ m) : rowOf (cs.take m) k n = rowOf cs k n := by
  unfold rowOf; rw [List.drop_take, List.take_take, Nat.min_eq_left (by omega)]

theorem slAt_of_owns {w : World} {base : Nat} {e : TypeId} {size : Nat} {v : Value} {rows : List (List Value)} (hr : ∀ r ∈ rows, r.length = size) (h : w.ownsRow base e size v rows.length rows.flatten) : SlAt w v size rows := by
  obtain ⟨_, h2⟩ := h
  rcases h2 with ⟨rfl, h0⟩ | ⟨g, cap, cur, rfl, hg, hh, hc, hm, hs, ht⟩
  · exact ⟨none, 0, by rw [h0], by omega, fun j hj => by omega⟩
  · refine ⟨some ⟨g, 0, none⟩, cap, rfl, hc, fun j hj => ⟨g, 0, rfl, (Array.getElem?_eq_some_iff.1 hh).1, ?_, ?_⟩⟩
    · rw [Nat.zero_add]
      refine hasRow_block (cs := cur.toList) (t := e) (fr := (0, 0)) hh _ _ ?_
      rw [Array.length_toList, hs, ← Nat.succ_mul]; exact Nat.mul_le_mul_right _ (by omega)
    · rw [Nat.zero_add]
      have hb : j * size + size ≤ cur.toList.length := by rw [Array.length_toList, hs, ← Nat.succ_mul]; exact Nat.mul_le_mul_right _ (by omega)
      rw [rowAt_block (cs := cur.toList) (t := e) (fr := (0, 0)) hh _ _ hb, ← flat_get hr j hj, ← ht, rowOf_take]
      rw [← Nat.succ_mul]; exact Nat.mul_le_mul_right _ (by omega)

/-- The cells of a slice of rows. -/
theorem SlAt.cells {w : World} {size : Nat} {rows : List (List Value)} {b k : Nat} (hr : ∀ r ∈ rows, r.length = size)
    (h : ∀ j (hj : j < rows.length), hasRow w ⟨b, k + j * size, none⟩ size = true ∧ rowAt w ⟨b, k + j * size, none⟩ size = rows[j]) :
    ∀ j u, rows.flatten[j]? = some u → w.cell? ((⟨b, k, none⟩ : Addr).add j) = some u := by
  intro m u hu
  have hm : m < rows.length * size := by have := (List.getElem?_eq_some_iff.1 hu).1; rwa [flat_len hr] at this
  have hs : 0 < size := by rcases Nat.eq_zero_or_pos size with e | e; · rw [e] at hm; omega
                           · exact e
  have hq : m / size < rows.length := (Nat.div_lt_iff_lt_mul hs).2 hm
  have hrm : m % size < size := Nat.mod_lt _ hs
  have hdm : m / size * size + m % size = m := Nat.div_add_mod' m size
  obtain ⟨h1, h2⟩ := h (m / size) hq
  have hc := hasRow_iff.1 h1 (m % size) hrm
  rw [Addr.add_lit] at hc ⊢
  rw [Nat.add_assoc, hdm] at hc
  have e1 : (rowAt w ⟨b, k + m / size * size, none⟩ size)[m % size]? = some ((w.cell? ⟨b, k + m, none⟩).getD undef) := by
    rw [rowAt, List.getElem?_map, List.getElem?_range hrm, Option.map_some, Addr.add_lit, Nat.add_assoc, hdm]
  rw [h2, ← flat_get hr (m / size) hq, rowOf, List.getElem?_take, if_pos hrm, List.getElem?_drop, hdm, hu] at e1
  obtain ⟨x, hx⟩ := Option.isSome_iff_exists.1 hc
  rw [hx] at e1 ⊢
  exact e1.symm
theorem slAt_block {w : World} {size : Nat} {rows : List (List Value)} {a : Option Addr} (h0 : 0 < rows.length)
    (h : ∀ j (hj : j < rows.length), ∃ b k, a = some ⟨b, k, none⟩ ∧ b < w.heap.size ∧ hasRow w ⟨b, k + j * size, none⟩ size = true ∧ rowAt w ⟨b, k + j * size, none⟩ size = rows[j]) :
    ∃ b k, a = some ⟨b, k, none⟩ ∧ b < w.heap.size ∧ ∀ j (hj : j < rows.length), hasRow w ⟨b, k + j * size, none⟩ size = true ∧ rowAt w ⟨b, k + j * size, none⟩ size = rows[j] := by
  obtain ⟨b, k, ha, hb, _⟩ := h 0 h0
  refine ⟨b, k, ha, hb, fun j hj => ?_⟩
  obtain ⟨b', k', ha', _, h1, h2⟩ := h j hj
  rw [ha] at ha'
  injection ha' with e
  injection e with e1 e2
  subst e1; subst e2
  exact ⟨h1, h2⟩
theorem SlAt.keep {w w' : World} {a : Option Addr} {m c : Nat} {n : Nat} {l : List (List Value)} (h : SlAt w (.slice a m c) n l) (hk : ∀ x, a = some x → w'.heap[x.block]? = w.heap[x.block]?) (hs : w.heap.size ≤ w'.heap.size) : SlAt w' (.slice a m c) n l := by
  obtain ⟨a', cap, hv, hc, hj⟩ := h
  injection hv with e1 e2 e3
  subst e1; subst e3
  refine ⟨a, c, by rw [e2], hc, fun j hlt => ?_⟩
  obtain ⟨b, k, ha, hb, h1, h2⟩ := hj j hlt
  have hh := hk _ ha
  have hcell : ∀ i, i < n → w'.cell? ((⟨b, k + j * n, none⟩ : Addr).add i) = w.cell? ((⟨b, k + j * n, none⟩ : Addr).add i) := fun i _ => World.cell?_of_block (w := w) (by rw [add_block]; exact hh)
  exact ⟨b, k, ha, Nat.lt_of_lt_of_le hb hs, (hasRow_congr hcell).trans h1, (rowAt_congr hcell).trans h2⟩
theorem map_bC_len {n : Nat} (l : List (Vector UInt8 n)) : ∀ r ∈ l.map bC, r.length = n := by
  intro r hr; obtain ⟨x, _, rfl⟩ := List.mem_map.1 hr; exact bC_length x
theorem flat_one {rows : List (List Value)} (h : ∀ r ∈ rows, oneB r = true) : ∀ u ∈ rows.flatten, u.oneCell' = true := by
  intro u hu; obtain ⟨r, hr, hur⟩ := List.mem_flatten.1 hu; exact List.all_eq_true.1 (h r hr) u hur

theorem infoAut : (Tryz.prog.info? 35).map (fun i => (i.zero, i.size, i.bytes)) = some (some (.agg (Array.replicate 16 (.int .u8 0))), 16, 16) := by kernel_rfl

def ClonePost (l : List Aut) (w : World) (e : Ending) (w' : World) : Prop := ∃ a n c, e = .returned (.slice a n c) ∧ AutsAt w' (.slice a n c) l ∧ (∀ x, a = some x → w.heap.size ≤ x.block) ∧ Gr w w'
end Go.Proofs.YteknmbijodbfoaaGreatDoor

namespace Go.Proofs.YteknmbijodbfoaaGreatDoor
open Go.RowKit

theorem owns_slice {w : World} {base : Nat} {e : TypeId} {size : Nat} {v : Value} {n : Nat} {xs : List Value} (h : w.ownsRow base e size v n xs) : ∃ a c, v = .slice a n c ∧ (a = none → n = 0 ∧ c = 0) := by
  rcases h.2 with ⟨h0, h1⟩ | ⟨g, cap, _, h0, _⟩
  · exact ⟨none, 0, by rw [h0, h1], fun _ => ⟨h1, rfl⟩⟩
  · exact ⟨_, cap, h0, fun h => by cases h⟩
theorem run_append_sl {P : Program} (w : World) (base : Nat) (t ty e : TypeId) (i : TypeInfo) (z : Value) (size bytes : Nat) (ht : P.underlying t = some (.slice e)) (hi : P.info? e = some i) (hz : i.zero = some z) (hsize : i.size = size) (hby : i.bytes = bytes) (hzs : z.cells.size = size) (hsz : 0 < size)
    (v : Value) (n : Nat) (xs : List Value) (hown : w.ownsRow base e size v n xs) (s : Value) (rows : List (List Value)) (hs : SlAt w s size rows) (hr : ∀ r ∈ rows, r.length = size) (h1 : ∀ r ∈ rows, oneB r = true) (h63 : n + rows.length ≤ 1000000) (hb : bytes ≤ 1000) (hbase : base ≤ w.heap.size) :
    ∃ a c w', (Builtin.append_ #[t, t] ty #[v, s]).run P w = .ok (.slice a (n + rows.length) c) w' ∧ w'.ownsRow base e size (.slice a (n + rows.length) c) (n + rows.length) (xs ++ rows.flatten) ∧ w.grownBy w' v.ownBlock ∧ ((Value.slice a (n + rows.length) c).ownBlock = v.ownBlock ∨ (Value.slice a (n + rows.length) c).ownBlock = some w.heap.size) := by
  obtain ⟨a, cap, rfl, hc, hj⟩ := hs
  have hbytes : (n + rows.length) * bytes ≤ 140737488355328 := Nat.le_trans (Nat.mul_le_mul h63 hb) (by decide)
  rcases a with _ | ad
  · have hl0 : rows = [] := by
      rcases Nat.eq_zero_or_pos rows.length with h | h
      · exact List.length_eq_zero_iff.1 h
      · obtain ⟨b, k, h, _⟩ := hj 0 h; cases h
    subst hl0
    obtain ⟨a', c', hv, _⟩ := owns_slice hown
    refine ⟨a', c', w, ?_, by simpa [hv] using hown, ⟨rfl, rfl, rfl, Nat.le_refl _, fun _ _ _ => rfl⟩, .inl (by rw [hv]; cases a' <;> rfl)⟩
    rcases hown.2 with ⟨rfl, rfl⟩ | ⟨g, cap, cur, rfl, _, _, hnc, _⟩
    · injection hv with e1 e2 e3
      subst e1; subst e3
      simp [Builtin.append_, run_underlying ht, sizeOf, typeInfo, hi, Builtin.lenOf, Builtin.firstCells]
    · injection hv with e1 e2 e3
      subst e1; subst e3
      simp [Builtin.append_, run_underlying ht, sizeOf, typeInfo, hi, Builtin.lenOf, Builtin.firstCells, hnc, storeCells]
  · have hcells : ∀ j u, rows.flatten[j]? = some u → w.cell? (ad.add j) = some u := by
      intro j u hu
      have h0 : 0 < rows.length := by
        rcases Nat.eq_zero_or_pos rows.length with h | h
        · rw [List.length_eq_zero_iff.1 h] at hu; simp at hu
        · exact h
      obtain ⟨b, k, hb, hlt, hall⟩ := slAt_block h0 hj
      injection hb with hb
      subst hb
      exact SlAt.cells hr hall j u hu
    obtain ⟨v', w', hr1, hr2, hr3, _, hr5⟩ := run_append_own_at (P := P) w base t ty e i z size bytes ht hi hz hsize hby hzs hsz v n xs hown ad rows.length cap rows.flatten (flat_len hr) hcells (flat_one h1) (by unfold maxLen; omega) hbytes hbase
    obtain ⟨a', c', rfl, _⟩ := owns_slice hr2
    exact ⟨a', c', w', hr1, hr2, hr3, hr5⟩
theorem wpList_append_sl {P : Program} (w : World) {ops : Array Oper} {rest : List Oper} {o : Oper} {a : Act} {Q : Exit → Act → World → Prop} (hgd : o.guard = none) (s x : Operand) (t : TypeId)
    (ho : o.op = .call { callee := .builtin .append, args := #[s, x], argTypes := #[t, t] })
    (base : Nat) (e : TypeId) (i : TypeInfo) (z : Value) (size bytes : Nat) (ht : P.underlying t = some (.slice e)) (hi : P.info? e = some i) (hz : i.zero = some z) (hsize : i.size = size) (hby : i.bytes = bytes) (hzs : z.cells.size = size) (hsz : 0 < size)
    (v : Value) (n : Nat) (xs : List Value) (hs : a.eval s = v) (hown : w.ownsRow base e size v n xs) (sv : Value) (rows : List (List Value)) (hx : a.eval x = sv) (hsl : SlAt w sv size rows) (hr : ∀ r ∈ rows, r.length = size) (h1 : ∀ r ∈ rows, oneB r = true) (h63 : n + rows.length ≤ 1000000) (hb : bytes ≤ 1000) (hbase : base ≤ w.heap.size)
    (h : ∀ a' c' w', w'.ownsRow base e size (.slice a' (n + rows.length) c') (n + rows.length) (xs ++ rows.flatten) → w.grownBy w' v.ownBlock → ((Value.slice a' (n + rows.length) c').ownBlock = v.ownBlock ∨ (Value.slice a' (n + rows.length) c').ownBlock = some w.heap.size) → wpList P ops Q rest (a.put o.dst (.slice a' (n + rows.length) c')) w') :
    wpList P ops Q (o :: rest) a w := by
  refine wpList_plain hgd fun K hK => ?_
  obtain ⟨a', c', w', hrun, h2, h3, h4⟩ := run_append_sl (P := P) w base t o.type e i z size bytes ht hi hz hsize hby hzs hsz v n xs hown sv rows hsl hr h1 h63 hb hbase
  unfold Oper.wp execOp
  simp only [ho, resolve, invoke, builtin, Sem.run_bind, Sem.run_pure, Result.andThen_ok, List.map_toArray, List.map_cons, List.map_nil, hs, hx, hrun]
  exact hK _ _ (h a' c' w' h2 h3 h4)
/-- The beginning of a slice. -/
theorem SlAt.take {w : World} {a : Option Addr} {n c size : Nat} {rows : List (List Value)} (h : SlAt w (.slice a n c) size rows) (k : Nat) (hk : k ≤ rows.length) : SlAt w (.slice a k c) size (rows.take k) := by
  obtain ⟨a', cap, hv, hc, hj⟩ := h
  injection hv with e1 e2 e3
  subst e1; subst e3
  have hl : (rows.take k).length = k := by rw [List.length_take]; omega
  refine ⟨a, c, by rw [hl], by rw [hl]; omega, fun j hlt => ?_⟩
  rw [hl] at hlt
  obtain ⟨b, o, ha, hb, h1, h2⟩ := hj j (by omega)
  exact ⟨b, o, ha, hb, h1, by rw [h2, List.getElem_take]⟩
/-- The rest of a slice. -/
theorem SlAt.drop {w : World} {b o n c size : Nat} {rows : List (List Value)} (h : SlAt w (.slice (some ⟨b, o, none⟩) n c) size rows) (k : Nat) (hk : k ≤ rows.length) (c' : Nat) (hc' : rows.length - k ≤ c') : SlAt w (.slice (some ⟨b, o + k * size, none⟩) (n - k) c') size (rows.drop k) := by
  obtain ⟨a', cap, hv, hc, hj⟩ := h
  injection hv with e1 e2 e3
  subst e1; subst e2
  have hl : (rows.drop k).length = rows.length - k := List.length_drop
  refine ⟨_, c', by rw [hl], by rw [hl]; exact hc', fun j hlt => ?_⟩
  rw [hl] at hlt
  obtain ⟨b', o', ha, hb, h1, h2⟩ := hj (k + j) (by omega)
  injection ha with ha
  injection ha with e1 e2
  subst e1; subst e2
  refine ⟨b, o + k * size, rfl, hb, ?_, ?_⟩
  · rw [Nat.add_assoc, ← Nat.add_mul]; exact h1
  · rw [Nat.add_assoc, ← Nat.add_mul, h2, List.getElem_drop]
theorem slAt_none (w : World) (a : Option Addr) (c size : Nat) : SlAt w (.slice a 0 c) size [] := ⟨a, c, rfl, Nat.zero_le _, fun j hj => by simp at hj⟩
end Go.Proofs.YteknmbijodbfoaaGreatDoor

namespace Go.Proofs.YteknmbijodbfoaaGreatDoor
open Go.RowKit

/-- v is a slice of the strings l. -/
def StrsAt (w : World) (v : Value) (l : List ByteArray) : Prop :=
  ∃ a cap, v = .slice a l.length cap ∧ ∀ j (h : j < l.length), ∃ b k, a = some ⟨b, k, none⟩ ∧ b < w.heap.size ∧ w.cell? ⟨b, k + j, none⟩ = some (.string l[j])
theorem StrsAt.gr {w w' : World} {v : Value} {l : List ByteArray} (h : StrsAt w v l) (hg : Gr w w') : StrsAt w' v l := by
  obtain ⟨a, cap, hv, hj⟩ := h
  refine ⟨a, cap, hv, fun j hlt => ?_⟩
  obtain ⟨b, k, ha, hb, h1⟩ := hj j hlt
  exact ⟨b, k, ha, Nat.lt_of_lt_of_le hb hg.size, (hg.cell (p := ⟨b, k + j, none⟩) hb).trans h1⟩

def anyTo (l : List ByteArray) (p : ByteArray → Bool) (k : Nat) : Bool := (l.take k).any p
theorem anyTo_succ (l : List ByteArray) (p : ByteArray → Bool) (k : Nat) (h : k < l.length) : anyTo l p (k + 1) = (anyTo l p k || p l[k]) := by
  unfold anyTo; rw [List.take_succ_eq_append_getElem h, List.any_append]; simp
/-- What slices.IndexFunc leaves. -/
def IdxFPost (b : Bool) (w : World) (e : Ending) (w' : World) : Prop := ∃ i : Int, e = .returned (.int .i64 i) ∧ (decide (0 ≤ i) = b) ∧ Gr w w'

set_option maxRecDepth 100000 in
set_option maxHeartbeats 2000000 in
theorem indexFuncS (l : List ByteArray) (v : Value) (p : ByteArray → Bool) (g : Nat) (lb : Array Value) (w : World) (eg : ∀ args w, (callFunc g args).run Tryz.prog w = .ok (.enter g args) w)
    (hp : ∀ s ∈ l, ∀ W, Gr w W → Calls Tryz.prog g (#[.string s] ++ lb) W fun e W' => e = .returned (.bool (p s)) ∧ Gr W W') (hv : StrsAt w v l) (hl : l.length ≤ 1000000) :
    Calls Tryz.prog 159 #[v, .func (.func g) #[] lb] w (IdxFPost (l.any p) w) := by
  obtain ⟨a, cap, rfl, hj⟩ := hv
  have HJ := Lib.hid hj
  have HP := Lib.hid hp
  clear hj hp
  go_enter Tryz.func159, Tryz.ntmps159
  go_wp2_with fail
  go_loopw [5, 8, 10, 11, 12, 13, 14, 15, 16] (fun _ i _ _ _ _ _ _ _ wr => ∃ k : Nat, k ≤ l.length ∧ i = .int .i64 k ∧ Hid (anyTo l p k = false) ∧ Hid (Gr w wr)) (fun _ i _ _ _ _ _ _ _ _ => l.length - (intOf i).toNat)
  case atStart => exact ⟨0, Nat.zero_le _, rfl, rfl, Gr.refl w⟩
  case round =>
    obtain ⟨k, hk, rfl, hh, hG⟩ := hrel
    by_cases hlt : k < l.length
    · obtain ⟨b, o, rfl, hb, h1⟩ := HJ.out k hlt
      have HS := Lib.hid (anyTo_succ l p k hlt)
      have h1' := (hG.out.cell (p := ⟨b, o + k, none⟩) hb).trans h1
      clear h1
      have hmem : Hid (l[k] ∈ l) := List.getElem_mem hlt
      have hall : Hid (p l[k] = true → l.any p = true) := fun h => List.any_eq_true.2 ⟨_, hmem.out, h⟩
      generalize l[k] = s at *
      go_wp2_with fail
      refine (HP.out s hmem.out _ hG.out).mono ?_
      rintro e w1 ⟨rfl, hg1⟩
      have G1 := Lib.hid (hG.out.trans hg1)
      clear hg1
      cases hx : p s with
      | true =>
        have HX := Lib.hid hx
        clear hx
        go_wp2_with fail
        go_ret
        refine ⟨_, rfl, ?_, G1.out⟩
        rw [hall.out HX.out]; simp
      | false =>
        have HX := Lib.hid hx
        clear hx
        go_wp2_with fail
        go_roundw
        case rel => exact ⟨k + 1, by omega, by go_num, by show _ = _; rw [HS.out, hh.out, HX.out]; rfl, G1.out⟩
        case measure => simp [intOf]; omega
    · go_wp2_with fail
      go_ret
      refine ⟨_, rfl, ?_, hG.out⟩
      have : l.any p = anyTo l p k := by unfold anyTo; rw [List.take_of_length_le (by omega)]
      rw [this, hh.out]; decide

set_option maxRecDepth 100000 in
set_option maxHeartbeats 2000000 in
theorem containsFuncS (l : List ByteArray) (v : Value) (p : ByteArray → Bool) (g : Nat) (lb : Array Value) (w : World) (eg : ∀ args w, (callFunc g args).run Tryz.prog w = .ok (.enter g args) w)
    (hp : ∀ s ∈ l, ∀ W, Gr w W → Calls Tryz.prog g (#[.string s] ++ lb) W fun e W' => e = .returned (.bool (p s)) ∧ Gr W W') (hv : StrsAt w v l) (hl : l.length ≤ 1000000) :
    Calls Tryz.prog 126 #[v, .func (.func g) #[] lb] w fun e w' => e = .returned (.bool (l.any p)) ∧ Gr w w' := by
  have HI := Lib.hid (indexFuncS l v p g lb w eg hp hv hl)
  clear hp hv eg
  go_enter Tryz.func126, Tryz.ntmps126
  go_wp2_with fail
  refine HI.out.mono ?_
  rintro e w1 ⟨i, rfl, hi, hg1⟩
  have HI2 := Lib.hid hi
  clear hi
  go_wp2_with fail
  go_ret
  exact ⟨ret_bool HI2.out, hg1⟩
end Go.Proofs.YteknmbijodbfoaaGreatDoor

namespace Go.Proofs.YteknmbijodbfoaaGreatDoor
open Go.RowKit

/-- The library's variable MaxLen holds some number. -/
def Env (w : World) : Prop := ∃ m : Int, w.cell? ⟨5, 0, none⟩ = some (.int .i64 m)
theorem Env.gr {w w' : World} (h : Env w) (hg : Gr w w') : Env w' := by
  obtain ⟨m, hm⟩ := h
  exact ⟨m, (hg.cell (p := ⟨_, 0, none⟩) (World.block_lt_of_cell? w _ hm)).trans hm⟩

def lowB (c : Int) : Bool := decide (97 ≤ c) && decide (c ≤ 122)
def badB (c : Int) : Bool := !lowB c && (decide (c < 48) || decide (57 < c)) && c != 45 && c != 43 && c != 95
set_option maxHeartbeats 400000 in
theorem isLowerC (c : Int) (w : World) : Calls Tryz.prog 160 #[.int .u8 c] w fun e w' => e = .returned (.bool (lowB c)) ∧ w = w' := by
  go_enter Tryz.func160, Tryz.ntmps160
  go_wp2
  all_goals
    go_ret
    refine ⟨ret_bool ?_, rfl⟩
    unfold lowB
    rw [Bool.eq_iff_iff]
    simp
    omega
set_option maxHeartbeats 1000000 in
theorem badC (c : Int) (w : World) : Calls Tryz.prog 162 #[.int .u8 c] w fun e w' => e = .returned (.bool (badB c)) ∧ w = w' := by
  cases hl : lowB c with
  | true =>
    have HL := Lib.hid hl
    clear hl
    go_enter Tryz.func162, Tryz.ntmps162
    go_wp2_with (go_at_call 160; refine (isLowerC _ _).mono ?_; rintro e w' ⟨rfl, rfl⟩; rw [HL.out])
    go_ret
    exact ⟨ret_bool (by unfold badB; rw [HL.out]; rfl), rfl⟩
  | false =>
    have HL := Lib.hid hl
    clear hl
    go_enter Tryz.func162, Tryz.ntmps162
    go_wp2_with (go_at_call 160; refine (isLowerC _ _).mono ?_; rintro e w' ⟨rfl, rfl⟩; rw [HL.out])
    all_goals
      go_ret
      refine ⟨ret_bool ?_, rfl⟩
      unfold badB
      first | (rw [HL.out]; simp_all; done) | (simp_all; done) | (simp_all; omega)

/-- A component of a name. -/
def compB (s : ByteArray) : Bool := decide (0 < s.size) && decide (s.size ≤ 20) && lowB ((bl s).headD 0).toNat && !((bl s).any fun c => badB c.toNat)
theorem badPred (w : World) : PredAt Tryz.prog 162 #[] (fun c : UInt8 => .int .u8 (c.toNat : Int)) (fun c => badB c.toNat) w :=
  fun W c _ => (badC (c.toNat : Int) W).mono fun _ _ ⟨he, hw⟩ => ⟨he, 0, hw.symm⟩
/-- '[]byte(s)'. -/
theorem conv_bytes (s : ByteArray) (w : World) : ∃ cap W, (convert 9 60 (.string s)).run Tryz.prog w = .ok (.slice (some ⟨w.heap.size, 0, none⟩) s.size cap) W ∧ Lay w W ∧ BytesAt W w.heap.size 0 (bl s) ∧ s.size ≤ cap := by
  refine ⟨_, _, run_bytes_of_string w 9 60 5 s Tryz.underlying9 Tryz.underlying60 Tryz.underlying5, (Lay.refl w).drew.alloc _, ?_, grownCap_ge _ _ _ _⟩
  intro j hj
  rw [bl_length] at hj
  have hn := heap_alloc_new w.drew (.cells (bytesRow s (grownCap w s.size 0 5)) 5 ((bytesRow s (grownCap w s.size 0 5)).size, (bytesRow s (grownCap w s.size 0 5)).size + 1))
  have hn' : ((w.drew.alloc (.cells (bytesRow s (grownCap w s.size 0 5)) 5 ((bytesRow s (grownCap w s.size 0 5)).size, (bytesRow s (grownCap w s.size 0 5)).size + 1)))).heap[w.heap.size]? = some (.cells (bytesRow s (grownCap w s.size 0 5)) 5 ((bytesRow s (grownCap w s.size 0 5)).size, (bytesRow s (grownCap w s.size 0 5)).size + 1)) := hn
  rw [Nat.zero_add, cell_of_row _ _ _ _ _ _ hn']
  unfold bytesRow
  rw [Array.getElem?_append, if_pos (by simpa using hj)]
  have hj2 : j < s.data.size := hj
  simp only [Array.getElem?_map, Array.getElem?_eq_getElem hj2, Option.map_some, bl, Array.getElem_toList]

theorem compB_eq (s : ByteArray) (h0 : 0 < s.size) (h1 : s.size ≤ 20) : compB s = (lowB (s[0].toNat : Int) && !((bl s).any fun c => badB c.toNat)) := by
  have : (bl s).headD 0 = s[0] := by
    have hl : 0 < (bl s).length := by rw [bl_length]; exact h0
    obtain ⟨c, l, hcl⟩ : ∃ c l, bl s = c :: l := by cases h : bl s with | nil => rw [h] at hl; simp at hl | cons c l => exact ⟨c, l, rfl⟩
    have e : (bl s)[0]'hl = s[0] := rfl
    exact Eq.trans (show (bl s).headD 0 = c by rw [hcl]; rfl) (Eq.trans (by simp [hcl]) e)
  unfold compB
  rw [this]
  simp [h0, h1]
set_option maxRecDepth 100000 in
set_option maxHeartbeats 1000000 in
theorem isComponentC (s : ByteArray) (w : World) : Calls Tryz.prog 128 #[.string s] w fun e w' => e = .returned (.bool (compB s)) ∧ Gr w w' := by
  by_cases h0 : s.size = 0
  · have hl : bl s = [] := List.length_eq_zero_iff.1 (by rw [bl_length]; exact h0)
    have he2 : s.toList = [] := by rw [bl_toList]; exact hl
    have he : s.toList.isEmpty = true := by rw [he2]; rfl
    have hf : Hid (compB s = false) := by show _ = _; unfold compB; simp [h0]
    clear h0 hl
    go_enter Tryz.func128, Tryz.ntmps128
    go_wp2_with fail
    go_ret
    exact ⟨ret_bool hf.out.symm, Gr.refl w⟩
  · have hp : 0 < s.size := by omega
    have he : s.toList.isEmpty = false := by rw [bl_toList, List.isEmpty_eq_false_iff]; intro h; have := bl_length s; rw [h] at this; simp at this; omega
    have he2 : ¬ s.toList = [] := by intro h; rw [h] at he; cases he
    by_cases h1 : s.size ≤ 20
    · have hq := Lib.hid (compB_eq s hp h1)
      have hd : decide (20 < (s.size : Int)) = false := by simp; omega
      cases hl : lowB (s[0].toNat : Int) with
      | true =>
        have HL := Lib.hid hl
        obtain ⟨cap, W, hrun, hlay, hby, hcap⟩ := conv_bytes s w
        have eg : ∀ args w, (callFunc 162 args).run Tryz.prog w = .ok (.enter 162 args) w := enters_of Tryz.func162 (by kernel_rfl) rfl
        have hcon := AnyE.slices_ContainsFunc Tryz.containsByte (fun c : UInt8 => .int .u8 (c.toNat : Int)) (fun c => badB c.toNat) 162 #[] eg w.heap.size 0 s.size cap (bl s) W (badPred W) (by rw [bl_length]; exact Nat.le_refl _) (by omega) (fun j hj => by rw [hby j hj, getElem!_pos (bl s) j hj])
        rw [List.take_of_length_le (by rw [bl_length]; exact Nat.le_refl _)] at hcon
        have HC : Hid (Calls Tryz.prog 161 #[.slice (some ⟨w.heap.size, 0, none⟩) s.size cap, .func (.func 162) #[] #[]] W fun e w' => e = .returned (.bool ((bl s).any fun c => badB c.toNat)) ∧ ∃ q, w' = W.drewN q) := hcon
        have HY := Lib.hid hlay
        clear hl hby hlay eg hcon
        generalize ((bl s).any fun c => badB c.toNat) = r at *
        go_enter Tryz.func128, Tryz.ntmps128
        go_wp2_with (first | (go_at_call 160; refine (isLowerC _ _).mono ?_; rintro e w' ⟨rfl, rfl⟩; rw [HL.out]) | (go_at_call 161; refine HC.out.mono ?_; rintro e w' ⟨rfl, q, rfl⟩))
        go_ret
        exact ⟨ret_bool (by rw [hq.out, HL.out]; rfl), HY.out.1.drewN _⟩
      | false =>
        have HL := Lib.hid hl
        clear hl
        go_enter Tryz.func128, Tryz.ntmps128
        go_wp2_with (go_at_call 160; refine (isLowerC _ _).mono ?_; rintro e w' ⟨rfl, rfl⟩; rw [HL.out])
        go_ret
        exact ⟨ret_bool (by rw [hq.out, HL.out]; rfl), Gr.refl w⟩
    · have hf : Hid (compB s = false) := by show _ = _; unfold compB; simp [h1]
      have hd : decide (20 < (s.size : Int)) = true := by simp; omega
      go_enter Tryz.func128, Tryz.ntmps128
      go_wp2_with fail
      go_ret
      exact ⟨ret_bool hf.out.symm, Gr.refl w⟩

/-- The parts into which dots divide a name. -/
def partsOf (s : ByteArray) : List ByteArray := Lib.splitB ⟨#[46]⟩ 0 (Lib.countB s ⟨#[46]⟩) s
def nameErr (s : ByteArray) : Int := if 80 < s.size then 5 else if ((partsOf s).any fun p => !compB p) = true then 12 else if 10 < (partsOf s).length then 9 else 0

theorem parts_len (s : ByteArray) : (partsOf s).length = Lib.countB s ⟨#[46]⟩ + 1 := Lib.splitB_all ⟨#[46]⟩ (by decide) 0 _ s rfl
theorem parts_le (s : ByteArray) : (partsOf s).length ≤ s.size + 1 := by rw [parts_len]; have := Lib.countB_le ⟨#[46]⟩ (by decide) s.size s (Nat.le_refl _); omega
theorem strsAt_new (w : World) (l : List ByteArray) (cap : Nat) : StrsAt (w.alloc (.cells (l.map Value.string).toArray 9)) (.slice (some ⟨w.heap.size, 0, none⟩) l.length cap) l := by
  refine ⟨_, cap, rfl, fun j hj => ⟨w.heap.size, 0, rfl, by simp, ?_⟩⟩
  rw [Nat.zero_add, World.cell?_alloc_new]
  simp [hj]

set_option maxRecDepth 100000 in
set_option maxHeartbeats 1000000 in
theorem partsC (s : ByteArray) (w : World) (hE : Env w) (hs : s.size ≤ 1000) : Calls Tryz.prog 125 #[.string s] w fun e w' => e = .returned (.slice (some ⟨w.heap.size, 0, none⟩) (partsOf s).length (partsOf s).length) ∧ w' = w.alloc (.cells ((partsOf s).map Value.string).toArray 9) := by
  obtain ⟨m, hm⟩ := hE
  have HC := Lib.hid (Tryz.strings_Split s ⟨#[46]⟩ m w (by omega) hm (by decide))
  rw [← parts_len] at HC
  clear hm
  go_enter Tryz.func125, Tryz.ntmps125
  go_wp2_with fail
  refine HC.out.mono ?_
  rintro e w' ⟨rfl, rfl⟩
  go_wp2_with fail
  go_ret
  exact ⟨rfl, rfl⟩

set_option maxHeartbeats 1000000 in
theorem notComp (s : ByteArray) (w : World) : Calls Tryz.prog 127 #[.string s] w fun e w' => e = .returned (.bool (!compB s)) ∧ Gr w w' := by
  go_enter Tryz.func127, Tryz.ntmps127
  go_wp2_with fail
  refine (isComponentC s w).mono ?_
  rintro e w1 ⟨rfl, hg⟩
  go_wp2_with fail
  go_ret
  exact ⟨rfl, hg⟩

set_option maxRecDepth 100000 in
set_option maxHeartbeats 1000000 in
theorem checkName (s : ByteArray) (w : World) (hE : Env w) : Calls Tryz.prog 97 #[.string s] w fun e w' => e = .returned (.int .i64 (nameErr s)) ∧ Gr w w' := by
  by_cases h1 : 80 < s.size
  · have hf : Hid (nameErr s = 5) := by show _ = _; unfold nameErr; rw [if_pos h1]
    go_enter Tryz.func97, Tryz.ntmps97
    go_wp2_with fail
    go_ret
    exact ⟨ret_int hf.out.symm, Gr.refl w⟩
  · have hgr := (Gr.refl w).alloc (.cells ((partsOf s).map Value.string).toArray 9)
    have eg : ∀ args w, (callFunc 127 args).run Tryz.prog w = .ok (.enter 127 args) w := enters_of Tryz.func127 (by kernel_rfl) rfl
    have hl := parts_le s
    have HC := Lib.hid (containsFuncS (partsOf s) _ (fun p => !compB p) 127 #[] _ eg (fun p _ W _ => notComp p W) (strsAt_new w (partsOf s) (partsOf s).length) (by omega))
    have hP := Lib.hid (partsC s w hE (by omega))
    have HG := Lib.hid hgr
    have hf : Hid (nameErr s = if ((partsOf s).any fun p => !compB p) = true then 12 else if 10 < (partsOf s).length then 9 else 0) := by show _ = _; unfold nameErr; rw [if_neg h1]
    clear eg hgr hE
    generalize (partsOf s) = l at *
    cases hb : l.any fun p => !compB p with
    | true =>
      rw [hb] at HC
      have HB := Lib.hid hb
      clear hb
      go_enter Tryz.func97, Tryz.ntmps97
      go_wp2_with fail
      refine hP.out.mono ?_
      rintro e w' ⟨rfl, rfl⟩
      go_wp2_with fail
      refine HC.out.mono ?_
      rintro e w1 ⟨rfl, hg1⟩
      go_wp2_with fail
      go_ret
      exact ⟨ret_int (by rw [hf.out, HB.out]; rfl), HG.out.trans hg1⟩
    | false =>
      rw [hb] at HC
      have HB := Lib.hid hb
      clear hb
      by_cases h2 : 10 < l.length
      · go_enter Tryz.func97, Tryz.ntmps97
        go_wp2_with fail
        refine hP.out.mono ?_
        rintro e w' ⟨rfl, rfl⟩
        go_wp2_with fail
        refine HC.out.mono ?_
        rintro e w1 ⟨rfl, hg1⟩
        go_wp2_with fail
        go_ret
        exact ⟨ret_int (by rw [hf.out, HB.out, if_neg (by decide), if_pos h2]), HG.out.trans hg1⟩
      · go_enter Tryz.func97, Tryz.ntmps97
        go_wp2_with fail
        refine hP.out.mono ?_
        rintro e w' ⟨rfl, rfl⟩
        go_wp2_with fail
        refine HC.out.mono ?_
        rintro e w1 ⟨rfl, hg1⟩
        go_wp2_with fail
        go_ret
        exact ⟨ret_int (by rw [hf.out, HB.out, if_neg (by decide), if_neg h2]), HG.out.trans hg1⟩
end Go.Proofs.YteknmbijodbfoaaGreatDoor

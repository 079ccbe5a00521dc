/- Rows of cells: what a load of an aggregate reads and what a store of one lays, as rules for the walk; bytes as vectors. -/
import Derived.WalkKit
import Derived.WalkSmall
import Derived.Lib.Hide
import Derived.Lib.Strings
import Derived.Deep.Draws
import Derived.Laws.Cells
import Derived.Laws.Tables
import Derived.Laws.IdiomCopy
import Derived.Laws.NewBlocks
import Derived.Laws.StructEq
import Derived.Deep.MidRow
namespace Go.Proofs.YtcdcmohccbhchaaGreatDoor
open Go.RowKit

/-- w' is w with new blocks and draws: of what was there nothing has turned. -/
def Gr (w w' : World) : Prop := Below w.heap.size w w'
theorem Gr.refl (w : World) : Gr w w := Below.refl _ _
theorem Gr.size {w w' : World} (h : Gr w w') : w.heap.size ≤ w'.heap.size := Below.size h
theorem Gr.trans {a b c : World} (h : Gr a b) (k : Gr b c) : Gr a c := Below.trans h (Below.mono k h.size)
theorem Gr.drew {a w : World} (h : Gr a w) : Gr a w.drew := Below.drew h
theorem Gr.drewN {a w : World} (h : Gr a w) (n : Nat) : Gr a (w.drewN n) := below_drewN h n
theorem Gr.alloc {a w : World} (h : Gr a w) (o : Obj) : Gr a (w.alloc o) := Below.alloc h h.size o
theorem Gr.setCell {a w : World} (h : Gr a w) {p : Addr} (hp : a.heap.size ≤ p.block) (u : Value) : Gr a (w.setCell p u) := Below.setCell h hp u
theorem Gr.grown {a w w' : World} {row : Option Nat} (h : Gr a w) (hg : w.grownBy w' row) (hr : ∀ k, row = some k → a.heap.size ≤ k) : Gr a w' := Below.grown h hg h.size hr
theorem Gr.cell {w w' : World} (h : Gr w w') {p : Addr} (hp : p.block < w.heap.size) : w'.cell? p = w.cell? p := Below.cell h hp
theorem Gr.frozen {w w' : World} (h : Gr w w') {p : Addr} (hp : p.block < w.heap.size) : w'.frozen? p = w.frozen? p := Below.frozen h hp
theorem Gr.block {w w' : World} (h : Gr w w') {b : Nat} (hb : b < w.heap.size) : w'.heap[b]? = w.heap[b]? := Below.block h b hb
theorem Gr.grownBy {w w' : World} (h : Gr w w') : w.grownBy w' none := ⟨h.os, h.tape, h.output, Below.size h, fun k hk _ => Below.block h k hk⟩
theorem Gr.of_grownBy {w w' : World} (h : w.grownBy w' none) : Gr w w' := ⟨h.os, h.tape, h.output, h.size, fun k hk => h.block k hk (by simp)⟩

/-- The bytes of a string. -/
def bl (s : ByteArray) : List UInt8 := s.data.toList
theorem bl_length (s : ByteArray) : (bl s).length = s.size := (Lib.size_eq s).symm
theorem bl_toList (s : ByteArray) : s.toList = bl s := Lib.toList_data s
theorem bl_inj {s t : ByteArray} (h : bl s = bl t) : s = t := by
  cases s; cases t; simp only [bl] at h; congr 1; exact Array.toList_inj.1 h
theorem ret_int {k : IntKind} {a b : Int} (h : a = b) : Ending.returned (.int k a) = .returned (.int k b) := by rw [h]
theorem ret_bool {a b : Bool} (h : a = b) : Ending.returned (.bool a) = .returned (.bool b) := by rw [h]

/-! ### rows -/
/-- The n cells from a on. -/
def rowAt (w : World) (a : Addr) (n : Nat) : List Value := (List.range n).map fun i => (w.cell? (a.add i)).getD undef
/-- .. they are there. -/
def hasRow (w : World) (a : Addr) (n : Nat) : Bool := (List.range n).all fun i => (w.cell? (a.add i)).isSome
/-- .. and may be written. -/
def freeRow (w : World) (a : Addr) (n : Nat) : Bool := (List.range n).all fun i => !w.frozen? (a.add i)
/-- The n cells of an array from k on. -/
def rowOf (cs : List Value) (k n : Nat) : List Value := (cs.drop k).take n

theorem hasRow_iff {w : World} {a : Addr} {n : Nat} : hasRow w a n = true ↔ ∀ i, i < n → (w.cell? (a.add i)).isSome = true := by
  simp [hasRow, List.all_eq_true]
theorem freeRow_iff {w : World} {a : Addr} {n : Nat} : freeRow w a n = true ↔ ∀ i, i < n → w.frozen? (a.add i) = false := by
  simp [freeRow, List.all_eq_true]

theorem add_block (a : Addr) (n : Nat) : (a.add n).block = a.block := by unfold Addr.add; split <;> rfl

theorem rowAt_congr {w w' : World} {a : Addr} {n : Nat} (h : ∀ i, i < n → w'.cell? (a.add i) = w.cell? (a.add i)) : rowAt w' a n = rowAt w a n := by
  unfold rowAt; apply List.map_congr_left; intro i hi; rw [h i (by simpa using hi)]
theorem hasRow_congr {w w' : World} {a : Addr} {n : Nat} (h : ∀ i, i < n → w'.cell? (a.add i) = w.cell? (a.add i)) : hasRow w' a n = hasRow w a n := by
  rw [Bool.eq_iff_iff, hasRow_iff, hasRow_iff]; constructor
  · intro g i hi; rw [← h i hi]; exact g i hi
  · intro g i hi; rw [h i hi]; exact g i hi
theorem freeRow_congr {w w' : World} {a : Addr} {n : Nat} (h : ∀ i, i < n → w'.frozen? (a.add i) = w.frozen? (a.add i)) : freeRow w' a n = freeRow w a n := by
  rw [Bool.eq_iff_iff, freeRow_iff, freeRow_iff]; constructor
  · intro g i hi; rw [← h i hi]; exact g i hi
  · intro g i hi; rw [h i hi]; exact g i hi

theorem rowAt_past (w : World) (o : Obj) (b k n : Nat) (h : b < w.heap.size) : rowAt (w.alloc o) ⟨b, k, none⟩ n = rowAt w ⟨b, k, none⟩ n :=
  rowAt_congr fun i _ => World.cell?_alloc_lt w o _ (by rw [add_block]; exact h)
theorem hasRow_past (w : World) (o : Obj) (b k n : Nat) (h : b < w.heap.size) : hasRow (w.alloc o) ⟨b, k, none⟩ n = hasRow w ⟨b, k, none⟩ n :=
  hasRow_congr fun i _ => World.cell?_alloc_lt w o _ (by rw [add_block]; exact h)
theorem freeRow_past (w : World) (o : Obj) (b k n : Nat) (h : b < w.heap.size) : freeRow (w.alloc o) ⟨b, k, none⟩ n = freeRow w ⟨b, k, none⟩ n :=
  freeRow_congr fun i _ => World.frozen?_alloc_old w o _ (by rw [add_block]; exact Nat.ne_of_lt h)
theorem rowAt_drew (w : World) (a : Addr) (n : Nat) : rowAt w.drew a n = rowAt w a n := rfl
theorem hasRow_drew (w : World) (a : Addr) (n : Nat) : hasRow w.drew a n = hasRow w a n := rfl
theorem freeRow_drew (w : World) (a : Addr) (n : Nat) : freeRow w.drew a n = freeRow w a n := rfl
theorem rowAt_drewN (w : World) (m : Nat) (a : Addr) (n : Nat) : rowAt (w.drewN m) a n = rowAt w a n := rowAt_congr fun _ _ => World.cell?_drewN ..
theorem hasRow_drewN (w : World) (m : Nat) (a : Addr) (n : Nat) : hasRow (w.drewN m) a n = hasRow w a n := hasRow_congr fun _ _ => World.cell?_drewN ..

theorem cell_block {w : World} {b : Nat} {cs : List Value} {t : TypeId} {fr : Nat × Nat} (h : w.heap[b]? = some (.cells cs.toArray t fr)) (k : Nat) : w.cell? ⟨b, k, none⟩ = cs[k]? := by
  simp [World.cell?, h]
theorem rowAt_block {w : World} {b : Nat} {cs : List Value} {t : TypeId} {fr : Nat × Nat} (h : w.heap[b]? = some (.cells cs.toArray t fr)) (k n : Nat) (hn : k + n ≤ cs.length) : rowAt w ⟨b, k, none⟩ n = rowOf cs k n := by
  apply List.ext_getElem?
  intro i
  simp only [rowAt, rowOf, List.getElem?_map, List.getElem?_take, List.getElem?_drop]
  by_cases hi : i < n
  · rw [if_pos hi, List.getElem?_range hi, Option.map_some, Addr.add_lit, cell_block h, List.getElem?_eq_getElem (by omega)]; rfl
  · rw [if_neg hi, List.getElem?_eq_none (by simp; omega)]; rfl
theorem hasRow_block {w : World} {b : Nat} {cs : List Value} {t : TypeId} {fr : Nat × Nat} (h : w.heap[b]? = some (.cells cs.toArray t fr)) (k n : Nat) (hn : k + n ≤ cs.length) : hasRow w ⟨b, k, none⟩ n = true := by
  rw [hasRow_iff]; intro i hi; rw [Addr.add_lit, cell_block h, List.getElem?_eq_getElem (by omega)]; rfl
theorem freeRow_block {w : World} {b : Nat} {cs : List Value} {t : TypeId} (h : w.heap[b]? = some (.cells cs.toArray t (0, 0))) (k n : Nat) : freeRow w ⟨b, k, none⟩ n = true := by
  rw [freeRow_iff]; intro i hi; rw [Addr.add_lit]; simp [World.frozen?, h]
theorem heap_new (w : World) (o : Obj) (b : Nat) (h : b = w.heap.size) : (w.alloc o).heap[b]? = some o := by subst h; exact heap_alloc_new w o
theorem rowAt_at (w : World) (cs : List Value) (t : TypeId) (b k n : Nat) (h : b = w.heap.size) (hn : k + n ≤ cs.length) : rowAt (w.alloc (.cells cs.toArray t)) ⟨b, k, none⟩ n = rowOf cs k n := rowAt_block (heap_new w _ b h) k n hn
theorem hasRow_at (w : World) (cs : List Value) (t : TypeId) (b k n : Nat) (h : b = w.heap.size) (hn : k + n ≤ cs.length) : hasRow (w.alloc (.cells cs.toArray t)) ⟨b, k, none⟩ n = true := hasRow_block (heap_new w _ b h) k n hn
theorem freeRow_at (w : World) (cs : List Value) (t : TypeId) (b k n : Nat) (h : b = w.heap.size) : freeRow (w.alloc (.cells cs.toArray t)) ⟨b, k, none⟩ n = true := freeRow_block (heap_new w _ b h) k n

theorem Gr.rowAt {w w' : World} (h : Gr w w') {b k n : Nat} (hb : b < w.heap.size) : rowAt w' ⟨b, k, none⟩ n = rowAt w ⟨b, k, none⟩ n := rowAt_congr fun i _ => h.cell (by rw [add_block]; exact hb)
theorem Gr.hasRow {w w' : World} (h : Gr w w') {b k n : Nat} (hb : b < w.heap.size) : hasRow w' ⟨b, k, none⟩ n = hasRow w ⟨b, k, none⟩ n := hasRow_congr fun i _ => h.cell (by rw [add_block]; exact hb)
theorem hasRow_lt {w : World} {b k n : Nat} (h : hasRow w ⟨b, k, none⟩ n = true) (hn : 0 < n) : b < w.heap.size := by
  have := hasRow_iff.1 h 0 hn
  rw [Addr.add_lit] at this
  obtain ⟨v, hv⟩ := Option.isSome_iff_exists.1 this
  exact World.block_lt_of_cell? w ⟨b, k + 0, none⟩ hv

/-! ### a load, a store -/
def aggB (P : Program) (t : TypeId) : Bool := match P.underlying t with | some (.struct _) => true | some (.array _ _) => true | _ => false
theorem run_isAgg {P : Program} {t : TypeId} (h : aggB P t = true) (w : World) : (isAgg t).run P w = .ok true w := by
  unfold aggB at h
  split at h
  · rename_i hu; simp [isAgg, run_underlying hu]
  · rename_i hu; simp [isAgg, run_underlying hu]
  · cases h
theorem run_sizeOf' {P : Program} {t : TypeId} (h : aggB P t = true) (w : World) : (Go.sizeOf t).run P w = .ok (P.cellsOf t) w := by
  have hi : ∃ i, P.info? t = some i := by
    unfold aggB at h
    split at h
    · rename_i hu; exact info_of_underlying hu
    · rename_i hu; exact info_of_underlying hu
    · cases h
  obtain ⟨i, hi⟩ := hi
  simp [Go.sizeOf, typeInfo, Program.cellsOf, hi]
theorem run_loadVar_agg {P : Program} {t : TypeId} (h : aggB P t = true) {w : World} {a : Addr} (hr : hasRow w a (P.cellsOf t) = true) : (loadVar t a).run P w = .ok (.agg (rowAt w a (P.cellsOf t)).toArray) w := by
  have hl : (loadCells a (P.cellsOf t)).run P w = .ok (rowAt w a (P.cellsOf t)).toArray w := by
    rw [run_loadCells w a _ (fun i => (w.cell? (a.add i)).getD undef) (fun j hj => by
      obtain ⟨v, hv⟩ := Option.isSome_iff_exists.1 (hasRow_iff.1 hr j hj)
      rw [hv]; rfl)]
    rfl
  simp [loadVar, Sem.run_bind, run_isAgg h, run_sizeOf' h, hl]

/-- A load of an aggregate, as one word. -/
def ldR (P : Program) (t : TypeId) (v : Value) (w : World) : Result Next := (do pure (Next.value (← Instr.loadAt t v)) : Sem Next).run P w
theorem exec_load {P : Program} {t : TypeId} (_h : aggB P t = true) (ρ : Operand → Value) (d : Option Tmp) (x : Operand) (ty : TypeId) (p : String) (af : Array Edge) (g : Option (Nat × Bool)) (w : World) :
    Sem.run P (execOp ρ ⟨d, .load t x, ty, p, af, g⟩) w = ldR P t (ρ x) w := rfl
theorem ldR_ptr {P : Program} {t : TypeId} (h : aggB P t = true) {w : World} {a : Addr} (hr : hasRow w a (P.cellsOf t) = true) : ldR P t (.pointer (some a)) w = .ok (.value (.agg (rowAt w a (P.cellsOf t)).toArray)) w := by
  simp [ldR, Instr.loadAt, Instr.sureAddr, run_loadVar_agg h hr]

/-- What a load is where the row is not there. -/
def ldX (P : Program) (t : TypeId) (a : Addr) (w : World) : Result Next := ldR P t (.pointer (some a)) w
theorem ldR_ite {P : Program} {t : TypeId} (h : aggB P t = true) (w : World) (a : Addr) : ldR P t (.pointer (some a)) w = if hasRow w a (P.cellsOf t) = true then .ok (.value (.agg (rowAt w a (P.cellsOf t)).toArray)) w else ldX P t a w := by
  split
  · exact ldR_ptr h ‹_›
  · rfl

def oneB (cs : List Value) : Bool := cs.all fun v => v.oneCell'
/-- A store of an aggregate, as one word. -/
def stR (P : Program) (t : TypeId) (v x : Value) (w : World) : Result Next := (do Instr.storeAt t v x; pure Next.skip : Sem Next).run P w
theorem exec_store {P : Program} {t : TypeId} (_h : aggB P t = true) (ρ : Operand → Value) (d : Option Tmp) (x y : Operand) (ty : TypeId) (p : String) (af : Array Edge) (g : Option (Nat × Bool)) (w : World) :
    Sem.run P (execOp ρ ⟨d, .store t x y, ty, p, af, g⟩) w = stR P t (ρ x) (ρ y) w := rfl
theorem stR_ptr {P : Program} {t : TypeId} (h : aggB P t = true) {w : World} {b k : Nat} {cs : List Value} (hn : cs.length = P.cellsOf t) (hr : hasRow w ⟨b, k, none⟩ cs.length = true) (hf : freeRow w ⟨b, k, none⟩ cs.length = true) (h1 : oneB cs = true) :
    stR P t (.pointer (some ⟨b, k, none⟩)) (.agg cs.toArray) w = .ok .skip (w.setCells b k cs) := by
  have hs := run_storeCells_cells (P := P) b k cs 0 w (fun c hc => by have := hasRow_iff.1 hr c hc; rw [Addr.add_lit] at this; simpa using this) (fun c hc => by have := freeRow_iff.1 hf c hc; rw [Addr.add_lit] at this; simpa using this) (fun v hv => by simpa using List.all_eq_true.1 h1 v hv)
  rw [Nat.add_zero] at hs
  simp [stR, Instr.storeAt, Instr.sureAddr, storeVar, Value.cells, Sem.run_bind, run_sizeOf' h, hn, hs]

/-- What a store is where it does not fit. -/
def stX (P : Program) (t : TypeId) (b k : Nat) (cs : List Value) (w : World) : Result Next := stR P t (.pointer (some ⟨b, k, none⟩)) (.agg cs.toArray) w
theorem stR_ite {P : Program} {t : TypeId} (h : aggB P t = true) (w : World) (b k : Nat) (cs : List Value) : stR P t (.pointer (some ⟨b, k, none⟩)) (.agg cs.toArray) w =
    if cs.length = P.cellsOf t ∧ hasRow w ⟨b, k, none⟩ cs.length = true ∧ freeRow w ⟨b, k, none⟩ cs.length = true ∧ oneB cs = true then .ok .skip (w.setCells b k cs) else stX P t b k cs w := by
  split
  · rename_i g; exact stR_ptr h g.1 g.2.1 g.2.2.1 g.2.2.2
  · rfl

/-- A block that is laid whole. -/
theorem setCells_whole (w : World) (t : TypeId) (b : Nat) (z cs : List Value) (hb : b = w.heap.size) (hz : cs.length = z.length) : (w.alloc (.cells z.toArray t)).setCells b 0 cs = w.alloc (.cells cs.toArray t) := by
  have gen : ∀ (l pre post : List Value), post.length = l.length → (w.alloc (.cells (pre ++ post).toArray t)).setCells b pre.length l = w.alloc (.cells (pre ++ l).toArray t) := by
    intro l
    induction l with
    | nil => intro pre post h; obtain rfl : post = [] := List.length_eq_zero_iff.1 h; rfl
    | cons v l ih =>
      intro pre post h
      obtain ⟨p, post', rfl⟩ : ∃ p q, post = p :: q := by cases post with | nil => simp at h | cons p q => exact ⟨p, q, rfl⟩
      show (World.setCells ((w.alloc _).setCell ⟨b, pre.length, none⟩ v) b (pre.length + 1) l) = _
      rw [World.setCell_alloc_at _ _ _ _ _ hb]
      have e : (pre ++ p :: post').toArray.setIfInBounds pre.length v = ((pre ++ [v]) ++ post').toArray := by simp
      rw [e]
      have := ih (pre ++ [v]) post' (by simpa using h)
      simp only [List.length_append, List.length_cons, List.length_nil, Nat.zero_add, List.append_assoc, List.cons_append, List.nil_append] at this ⊢
      exact this
  simpa using gen cs [] z hz.symm

/-! ### bytes as vectors -/
def bC {n : Nat} (x : Vector UInt8 n) : List Value := x.toList.map fun b => .int .u8 (b.toNat : Int)
theorem bC_length {n : Nat} (x : Vector UInt8 n) : (bC x).length = n := by simp [bC]
theorem bC_inj {n : Nat} {x y : Vector UInt8 n} (h : bC x = bC y) : x = y := by
  apply Vector.toList_inj.1
  unfold bC at h
  exact List.map_inj_right (fun a b hab => by simp at hab; exact UInt8.toNat_inj.1 (by omega)) |>.1 h
theorem oneB_bC {n : Nat} (x : Vector UInt8 n) : oneB (bC x) = true := by
  simp only [oneB, bC, List.all_map, List.all_eq_true]; intro b _; rfl
theorem oneB_append (a b : List Value) : oneB (a ++ b) = (oneB a && oneB b) := by simp [oneB]
theorem oneB_cons (a : Value) (b : List Value) : oneB (a :: b) = (a.oneCell' && oneB b) := by simp [oneB]
theorem oneB_nil : oneB [] = true := rfl
end Go.Proofs.YtcdcmohccbhchaaGreatDoor

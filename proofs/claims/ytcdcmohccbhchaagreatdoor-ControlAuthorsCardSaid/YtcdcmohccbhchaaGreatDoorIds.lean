/- The comparing functions of identities, definitions and cancellations: what each returns; blocks and draws alone are left behind. -/
import Derived.Test.YtcdcmohccbhchaaGreatDoorClass
import Derived.Laws.Externs
namespace Go.Proofs.YtcdcmohccbhchaaGreatDoor
open Go.RowKit

theorem run_loadBytes {P : Program} (w : World) (b : Nat) : ∀ (x : List UInt8) (k : Nat) (acc : ByteArray), BytesAt w b k x → (Extern.Bytes.loadBytes ⟨b, k, none⟩ x.length acc).run P w = .ok ⟨acc.data ++ x.toArray⟩ w
  | [], k, acc, _ => by simp [Extern.Bytes.loadBytes]
  | c :: x, k, acc, h => by
    have h0 := h 0 (by simp)
    have ih := run_loadBytes (P := P) w b x (k + 1) (acc.push c) (fun j hj => by
      have := h (j + 1) (by simpa using hj)
      rw [show k + 1 + j = k + (j + 1) by omega]; simpa using this)
    have e : (⟨b, k, none⟩ : Addr).add 1 = ⟨b, k + 1, none⟩ := Addr.add_lit b k 1
    simp only [Nat.add_zero, List.getElem_cons_zero] at h0
    have e2 : ((c.toNat : Int).toNat.toUInt8) = c := by simp
    simp only [List.length_cons, Extern.Bytes.loadBytes, Sem.run_bind, run_load, h0, Result.andThen, e, e2, ih]
    congr 1
    simp [ByteArray.push]

theorem run_compareBytes {P : Program} (w : World) (b1 k1 c1 b2 k2 c2 : Nat) (x y : List UInt8) (h1 : BytesAt w b1 k1 x) (h2 : BytesAt w b2 k2 y) :
    (Extern.BytealgCompare.compare #[.slice (some ⟨b1, k1, none⟩) x.length c1, .slice (some ⟨b2, k2, none⟩) y.length c2]).run P w = .ok (.int .i64 (Lib.compareBytes x y)) w := by
  change Sem.run P (do pure (goInt (Extern.BytealgCompare.cmp (← Extern.Bytes.bytesOf (.slice (some ⟨b1, k1, none⟩) x.length c1)) (← Extern.Bytes.bytesOf (.slice (some ⟨b2, k2, none⟩) y.length c2))))) w = _
  simp only [Extern.Bytes.bytesOf, Sem.run_bind, run_loadBytes w b1 x k1 _ h1, run_loadBytes w b2 y k2 _ h2, Sem.run_pure, Result.andThen]
  rw [Lib.cmp_eq]
  simp [goInt]

set_option maxRecDepth 100000 in
set_option maxHeartbeats 1000000 in
theorem bytesCompare (b1 k1 c1 b2 k2 c2 : Nat) (x y : List UInt8) (w : World) (h1 : BytesAt w b1 k1 x) (h2 : BytesAt w b2 k2 y) :
    Calls Tryz.prog 104 #[.slice (some ⟨b1, k1, none⟩) x.length c1, .slice (some ⟨b2, k2, none⟩) y.length c2] w fun e w' => e = .returned (.int .i64 (Lib.compareBytes x y)) ∧ w = w' := by
  have hr := Lib.hid (run_compareBytes (P := Tryz.prog) w b1 k1 c1 b2 k2 c2 x y h1 h2)
  clear h1 h2
  go_enter Tryz.func104, Tryz.ntmps104
  go_wp2_with fail
  rw [run_callFunc_extern Tryz.func125 (by kernel_rfl) (by kernel_rfl) (by kernel_rfl) (e := Extern.BytealgCompare.compare) (by kernel_rfl), hr.out]
  simp only [Result.andThen]
  rw [Oper.upon_value]
  go_wp2
  go_ret
  exact ⟨rfl, rfl⟩

theorem toList_len {n : Nat} (x : Vector UInt8 n) : x.toList.length = n := by simp

/-- The order of cancellations, and of definitions. -/
def cfC (a b : Canc) : Int := orI (cmpI a.date b.date) (cmpB a.id b.id)
def cfP (a b : Dfn) : Int := orI (cmpI b.version a.version) (cmpB a.id b.id)
def cfD (a b : Dfn) : Int := orI (cmpS a.group b.group) (cfP a b)

theorem Lay.cellK {u u' : World} (h : Lay u u') {p : Addr} {v : Value} (hc : u.cell? p = some v) : u'.cell? p = some v := (h.1.cell (World.block_lt_of_cell? u p hc)).trans hc
theorem Lay.rangeK {u u' : World} (h : Lay u u') {b o : Nat} {cs : List Value} (hc : u.rangeAt b o cs) : u'.rangeAt b o cs := fun j v hv => h.cellK (hc j v hv)
theorem rangeAt_block {w : World} {b : Nat} {cs l : List Value} {t : TypeId} {fr : Nat × Nat} (h : w.heap[b]? = some (.cells cs.toArray t fr)) (k n : Nat) (_hn : k + n ≤ cs.length) (hl : rowOf cs k n = l) : w.rangeAt b k l := by
  intro j v hv
  rw [cell_block h]
  rw [← hl, rowOf, List.getElem?_take, List.getElem?_drop] at hv
  split at hv
  · exact hv
  · cases hv

/-- Two boxes. -/
theorem box2 (w : World) (t : TypeId) (A B : List Value) : Lay w ((w.alloc (.cells A.toArray t)).alloc (.cells B.toArray t)) ∧ w.heap.size + 1 < ((w.alloc (.cells A.toArray t)).alloc (.cells B.toArray t)).heap.size ∧
    ((w.alloc (.cells A.toArray t)).alloc (.cells B.toArray t)).heap[w.heap.size]? = some (.cells A.toArray t (0, 0)) ∧ ((w.alloc (.cells A.toArray t)).alloc (.cells B.toArray t)).heap[w.heap.size + 1]? = some (.cells B.toArray t (0, 0)) :=
  ⟨((Lay.refl w).alloc _).alloc _, by simp, heap_alloc2_old w _ _, heap_alloc2_new w _ _⟩

end Go.Proofs.YtcdcmohccbhchaaGreatDoor

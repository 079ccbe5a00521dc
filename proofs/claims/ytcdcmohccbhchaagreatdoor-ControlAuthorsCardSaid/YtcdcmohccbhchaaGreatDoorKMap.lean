/- The map of the readers: made in whatever order its entries come. -/
import Derived.Test.YtcdcmohccbhchaaGreatDoorKFm4
import Derived.WideMake
namespace Go.Proofs.YtcdcmohccbhchaaGreatDoor
open Go.RowKit

theorem ba_beq (s t : ByteArray) : (s == t) = true ↔ s = t := by
  obtain ⟨x⟩ := s; obtain ⟨y⟩ := t
  show (x == y) = true ↔ _
  rw [beq_iff_eq]
  exact ⟨fun h => by rw [h], fun h => by injection h⟩
theorem ba_ne {s t : ByteArray} (h : s ≠ t) : (s == t) = false := by
  cases e : s == t with
  | false => rfl
  | true => exact absurd ((ba_beq s t).1 e) h
/-- Entries, in the order of their coming. -/
def entL (L : List (ByteArray × Value)) (n : Nat) : List MapEntry := (L.zipIdx n).map fun x => { key := .string x.1.1, val := x.1.2, born := x.2 }
theorem entL_cons (k : ByteArray) (v : Value) (L : List (ByteArray × Value)) (n : Nat) : entL ((k, v) :: L) n = { key := .string k, val := v, born := n } :: entL L (n + 1) := by simp [entL, List.zipIdx_cons]
theorem entL_snoc (L : List (ByteArray × Value)) (k : ByteArray) (v : Value) (n : Nat) : entL (L ++ [(k, v)]) n = entL L n ++ [{ key := .string k, val := v, born := n + L.length }] := by
  simp [entL, List.zipIdx_append, Nat.add_comm]
theorem find_none : ∀ (L : List (ByteArray × Value)) (s : ByteArray) (n i : Nat), (∀ e ∈ L, e.1 ≠ s) → Instr.findNow .string (.string s) (entL L n) i = some none
  | [], _, _, _, _ => rfl
  | (k, v) :: L, s, n, i, h => by
    have hk : (s == k) = false := ba_ne fun e => h (k, v) (by simp) e.symm
    rw [entL_cons, Instr.findNow]
    simp only [Instr.sameNow, hk]
    exact find_none L s (n + 1) (i + 1) (fun e he => h e (by simp [he]))
theorem find_some : ∀ (L : List (ByteArray × Value)) (s : ByteArray) (v : Value) (n i : Nat), (s, v) ∈ L → (L.map (·.1)).Nodup → ∃ j, Instr.findNow .string (.string s) (entL L n) i = some (some (j, v))
  | [], _, _, _, _, h, _ => by cases h
  | (k, u) :: L, s, v, n, i, h, hn => by
    rw [entL_cons, Instr.findNow]
    by_cases hk : s = k
    · subst hk
      have : (s == s) = true := (ba_beq s s).2 rfl
      simp only [Instr.sameNow, this]
      rcases List.mem_cons.1 h with e | e
      · injection e with _ e2; rw [e2]; exact ⟨i, rfl⟩
      · rw [List.map_cons, List.nodup_cons] at hn
        exact absurd (List.mem_map_of_mem (f := (·.1)) e) hn.1
    · have hkk : (s == k) = false := ba_ne hk
      simp only [Instr.sameNow, hkk]
      refine find_some L s v (n + 1) (i + 1) ?_ (List.nodup_cons.1 hn).2
      rcases List.mem_cons.1 h with e | e
      · injection e with e1 _; exact absurd e1 hk
      · exact e
section
variable {P : Program} {mty kt et : TypeId} (w : World)
/-- Block w.heap.size is the map of the entries L. -/
def mapW (L : List (ByteArray × Value)) : World := w.alloc (.map (entL L 0).toArray L.length)
theorem mapW_heap (L : List (ByteArray × Value)) : (mapW w L).heap[w.heap.size]? = some (.map (entL L 0).toArray L.length) := heap_alloc_new w _
theorem run_put (hm : P.underlying mty = some (.map kt et)) (hk : P.underlying kt = some .string) (L : List (ByteArray × Value)) (s : ByteArray) (v : Value) (h : ∀ e ∈ L, e.1 ≠ s) :
    (Instr.mapUpdate mty (.map (some w.heap.size)) (.string s) v).run P (mapW w L) = .ok () (mapW w (L ++ [(s, v)])) := by
  have hf := find_none L s 0 0 h
  have hb := mapW_heap w L
  have hc : (Instr.checkKey false 10000 kt (.string s)).run P (mapW w L) = .ok () (mapW w L) := MapKept.run_checkKey (k := .string s) hk (by simp [MapKept.IsKey]) false 9999
  have hw : ({ mapW w L with heap := (mapW w L).heap.setIfInBounds w.heap.size (.map ((entL L 0).toArray.push { key := .string s, val := v, born := L.length }) (L.length + 1)) } : World) = mapW w (L ++ [(s, v)]) := by
    have e : (entL (L ++ [(s, v)]) 0).toArray = (entL L 0).toArray.push { key := .string s, val := v, born := L.length } := by rw [entL_snoc, Nat.zero_add]; simp
    unfold mapW World.alloc
    rw [e, List.length_append, List.length_singleton]
    simp only [World.mk.injEq, and_true]
    apply Array.ext_getElem?
    intro i
    rw [Array.getElem?_setIfInBounds, Array.getElem?_push, Array.getElem?_push]
    by_cases hi : w.heap.size = i
    · subst hi; simp
    · rw [if_neg hi, if_neg (fun e => hi e.symm), if_neg (fun e => hi e.symm)]
  simp only [Instr.mapUpdate, Sem.run_bind, run_underlying hm, Result.andThen_ok, MapKept.run_getObj_map hb, hc]
  rw [MapKept.run_findKey hk (a := none) (by simpa using hf)]
  simp only [Result.andThen_ok]
  rw [MapKept.run_setObj_map _ hb, hw]
theorem run_get (hm : P.underlying mty = some (.map kt et)) (hk : P.underlying kt = some .string) {W : World} {r : Nat} {L : List (ByteArray × Value)} (hb : W.heap[r]? = some (.map (entL L 0).toArray L.length)) (hL : (L.map (·.1)).Nodup) (s : ByteArray) (v : Value) (h : (s, v) ∈ L) :
    (Instr.lookup mty (.map (some r)) (.string s) true).run P W = .ok (.tuple #[v, .bool true]) W := by
  obtain ⟨j, hf⟩ := find_some L s v 0 0 h hL
  have hc : ∀ b, (Instr.checkKey b 10000 kt (.string s)).run P W = .ok () W := fun b => MapKept.run_checkKey (k := .string s) hk (by simp [MapKept.IsKey]) b 9999
  simp only [Instr.lookup, Sem.run_bind, run_underlying hm, Result.andThen_ok, MapKept.run_getObj_map hb, Sem.run_pure, hc]
  rw [MapKept.run_findKey hk (a := some (j, v)) (by simpa using hf)]
  simp
theorem run_miss (hm : P.underlying mty = some (.map kt et)) (hk : P.underlying kt = some .string) {W : World} {r : Nat} {L : List (ByteArray × Value)} (hb : W.heap[r]? = some (.map (entL L 0).toArray L.length)) (s : ByteArray) (z : Value) (hz : (zeroValue et).run P W = .ok z W) (h : ∀ e ∈ L, e.1 ≠ s) :
    (Instr.lookup mty (.map (some r)) (.string s) true).run P W = .ok (.tuple #[z, .bool false]) W := by
  have hf := find_none L s 0 0 h
  have hc : ∀ b, (Instr.checkKey b 10000 kt (.string s)).run P W = .ok () W := fun b => MapKept.run_checkKey (k := .string s) hk (by simp [MapKept.IsKey]) b 9999
  simp only [Instr.lookup, Sem.run_bind, run_underlying hm, Result.andThen_ok, MapKept.run_getObj_map hb, Sem.run_pure, hc]
  rw [MapKept.run_findKey hk (a := none) (by simpa using hf)]
  simp [hz]
end
end Go.Proofs.YtcdcmohccbhchaaGreatDoor

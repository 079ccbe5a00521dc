/- How a command lies, read off its reading (chapter 17). -/
import Derived.Test.YtcdcmohccbhchaaGreatDoorKDat
import Derived.Test.YtcdcmohccbhchaaGreatDoorKFacts
import Derived.Test.YtcdcmohccbhchaaGreatDoorAuts
import Derived.ProofKit
import Derived.OpenShut
import Derived.ChangeSame
import Derived.Deep.Slices
namespace Go.Proofs.YtcdcmohccbhchaaGreatDoor
open Go.ChangeShapes Go.WideShapes Go.ChangeAt Go.RowKit

theorem drop_row (cs : List Value) (k n : Nat) : cs.drop k = rowOf cs k n ++ cs.drop (k + n) := by
  unfold rowOf; rw [← List.drop_drop, List.take_append_drop]
theorem bytes_list : ∀ cs : List Value, (∀ u ∈ cs, ∃ b : UInt8, u = .int .u8 (b.toNat : Int)) → ∃ l : List UInt8, cs = l.map fun b => .int .u8 (b.toNat : Int)
  | [], _ => ⟨[], rfl⟩
  | u :: cs, h => by
    obtain ⟨b, rfl⟩ := h u (by simp)
    obtain ⟨l, rfl⟩ := bytes_list cs (fun x hx => h x (by simp [hx]))
    exact ⟨b :: l, rfl⟩
theorem list_of {α : Type} {p : Nat → α → Prop} : ∀ n : Nat, (∀ i, i < n → ∃ a, p i a) → ∃ l : List α, l.length = n ∧ ∀ i (h : i < l.length), p i l[i]
  | 0, _ => ⟨[], rfl, fun i h => by simp at h⟩
  | n + 1, h => by
    obtain ⟨l, hl, hp⟩ := list_of n (fun i hi => h i (by omega))
    obtain ⟨a, ha⟩ := h n (by omega)
    refine ⟨l ++ [a], by simp [hl], fun i hi => ?_⟩
    simp only [List.length_append, List.length_singleton] at hi
    by_cases e : i < l.length
    · rw [List.getElem_append_left e]; exact hp i e
    · obtain rfl : i = l.length := by omega
      rw [List.getElem_concat_length rfl, hl]; exact ha

section
variable {H : Type} {enc : TypeId × Value → H} {W : World} {base : Nat} {sp : Nat → Bool} {held : Bool}

theorem vec_open {n : Nat} {t : TypeId} (hu : Tryz.prog.underlying t = some (.array n 5)) (hC : Tryz.prog.cellsOf t = n) {fuel : Nat} {cs : List Value} {x : DataW H × List MemPlace}
    (hf : DataW.trod enc Tryz.prog W base sp held fuel t cs = some x) : ∃ v : Vector UInt8 n, cs = bC v := by
  obtain ⟨xs, m, _, _, hlen, hxl, hi⟩ := DataW.trod_array hu hf
  rw [hC] at hlen
  obtain ⟨l, rfl⟩ := bytes_list cs (fun u hu' => by
    obtain ⟨i, hil, rfl⟩ := List.getElem_of_mem hu'
    have h := hi i (by omega)
    rw [cellsByte, Nat.mul_one, List.drop_eq_getElem_cons hil, List.take_succ_cons, List.take_zero, List.getElem?_eq_getElem (by omega)] at h
    obtain ⟨z, hz, _, hw⟩ := DataW.trod_int Tryz.underlying5 h
    have hb := bounds_u8 hw
    refine ⟨UInt8.ofNat z.toNat, ?_⟩
    simp only [List.cons.injEq, and_true] at hz
    have e : ((UInt8.ofNat z.toNat).toNat : Int) = z := by simp; omega
    rw [hz, e])
  rw [List.length_map] at hlen
  exact ⟨⟨l.toArray, by simpa using hlen⟩, by simp [bC]⟩

theorem field_open {t : TypeId} {fs : Array Field} (ht : Tryz.prog.underlying t = some (.struct fs)) {fuel : Nat} {cs : List Value} {x : DataW H × List MemPlace}
    (hf : DataW.trod enc Tryz.prog W base sp held fuel t cs = some x) (i : Nat) (f : Field) (hi : fs[i]? = some f) (ty : TypeId) (off sz : Nat) (h1 : f.type = ty) (h2 : f.offset = off) (h3 : Tryz.prog.cellsOf ty = sz) :
    ∃ n y, DataW.trod enc Tryz.prog W base sp held n ty (rowOf cs off sz) = some y := by
  obtain ⟨xs, n, _, _, _, hxl, hg⟩ := DataW.trod_struct ht hf
  have h := hg i f hi
  have hlt : i < xs.length := by rw [hxl]; exact (Array.getElem?_eq_some_iff.1 hi).1
  rw [h1, h2, h3, List.getElem?_eq_getElem hlt] at h
  exact ⟨n, _, h⟩
theorem struct_len {t : TypeId} {fs : Array Field} (ht : Tryz.prog.underlying t = some (.struct fs)) {fuel : Nat} {cs : List Value} {x : DataW H × List MemPlace}
    (hf : DataW.trod enc Tryz.prog W base sp held fuel t cs = some x) : cs.length = Tryz.prog.cellsOf t := by
  obtain ⟨xs, n, _, _, hl, _, _⟩ := DataW.trod_struct ht hf
  exact hl
theorem cellsInt : Tryz.prog.cellsOf 3 = 1 := by kernel_rfl
theorem cellsStr : Tryz.prog.cellsOf 9 = 1 := by kernel_rfl
theorem cellsBool : Tryz.prog.cellsOf 4 = 1 := by kernel_rfl
theorem cellsSlA16 : Tryz.prog.cellsOf 23 = 1 := by kernel_rfl

theorem spot_none {a : Addr} {v : Value} (h : W.cell? a = some v) : a.spot = none := World.cell?_spot h

/-- A slice opened: its elements one by one. -/
theorem sl_open {t e : TypeId} {size : Nat} (hs : 0 < size) (hC : Tryz.prog.cellsOf e = size) {α : Type} (F : α → List Value) (Good : α → Prop)
    (hel : ∀ n cs' (y : DataW H × List MemPlace), DataW.trod enc Tryz.prog W base sp held n e cs' = some y → ∃ a : α, cs' = F a ∧ Good a)
    (ht : Tryz.prog.underlying t = some (.slice e)) {fuel : Nat} {v : Value} {x : DataW H × List MemPlace} (hf : DataW.trod enc Tryz.prog W base sp held fuel t [v] = some x) :
    ∃ l : List α, SlAt W v size (l.map F) ∧ (∀ a ∈ l, Good a) ∧ l.length ≤ 9223372036854775807 := by
  rcases Go.Deep.open_slice ht hf with ⟨hcs, _⟩ | ⟨a, len, cap, m, n, D, Pl, hcs, _, hl, hm, hmm, _, hi⟩
  · simp only [List.cons.injEq, and_true] at hcs
    subst hcs
    exact ⟨[], ⟨none, 0, rfl, Nat.le_refl _, fun j hj => by simp at hj⟩, by simp, by simp⟩
  · simp only [List.cons.injEq, and_true] at hcs
    subst hcs
    have hlm : len ≤ m := by rw [hmm]; split <;> omega
    unfold maxLen at hm
    rw [hC] at hi
    obtain ⟨l, hll, hp⟩ := list_of (p := fun i (z : α) => W.cells? base (a.add (i * size)) size = some (F z) ∧ Good z) len (fun i hil => by
      obtain ⟨cs', h1, h2⟩ := hi i (by omega)
      obtain ⟨z, hz, hgz⟩ := hel n cs' _ h2
      exact ⟨z, by rw [h1, hz], hgz⟩)
    refine ⟨l, ⟨some a, cap, by rw [List.length_map, hll], by rw [List.length_map, hll]; exact hl, fun j hj => ?_⟩, fun z hz => ?_, by omega⟩
    · rw [List.length_map] at hj
      obtain ⟨h1, _⟩ := hp j hj
      obtain ⟨_, hlen, hcell⟩ := World.cells?_some h1
      obtain ⟨blk, off, spot⟩ := a
      have hsome : ∀ i, i < size → ∃ u, W.cell? (((⟨blk, off, spot⟩ : Addr).add (j * size)).add i) = some u := fun i hi' => ⟨_, (hcell i hi').trans (List.getElem?_eq_getElem (by omega))⟩
      have hspot : spot = none := by
        obtain ⟨k1, _⟩ := hp 0 (by omega)
        obtain ⟨_, hl0, hc0⟩ := World.cells?_some k1
        have h5 := spot_none ((hc0 0 hs).trans (List.getElem?_eq_getElem (by omega)))
        rw [Nat.zero_mul] at h5
        exact h5
      subst hspot
      rw [Addr.add_lit] at hcell
      have hsome' : ∀ i, i < size → ∃ u, W.cell? ((⟨blk, off + j * size, none⟩ : Addr).add i) = some u := fun i hi' => by have h6 := hsome i hi'; rw [Addr.add_lit] at h6; exact h6
      refine ⟨blk, off, rfl, ?_, ?_, ?_⟩
      · obtain ⟨u, hu⟩ := hsome' 0 hs
        have h7 := World.block_lt_of_cell? W _ hu
        rwa [add_block] at h7
      · rw [hasRow_iff]; intro i hi'; obtain ⟨u, hu⟩ := hsome' i hi'; rw [hu]; rfl
      · rw [List.getElem_map]
        apply List.ext_getElem?
        intro i
        rw [rowAt, List.getElem?_map]
        by_cases hi' : i < size
        · rw [List.getElem?_range hi', Option.map_some, hcell i hi', List.getElem?_eq_getElem (by omega)]; rfl
        · rw [List.getElem?_eq_none (by simp; omega), List.getElem?_eq_none (by omega)]; rfl
    · obtain ⟨i, hil, rfl⟩ := List.getElem_of_mem hz
      exact (hp i hil).2

theorem auts16_open {fuel : Nat} {v : Value} {x : DataW H × List MemPlace} (hf : DataW.trod enc Tryz.prog W base sp held fuel 23 [v] = some x) : ∃ l, AutsAt W v l ∧ l.length ≤ 9223372036854775807 := by
  obtain ⟨l, h1, _, h3⟩ := sl_open (by decide) cellsA16 (fun s : Aut => bC s) (fun _ => True) (fun n cs' y h => by
    obtain ⟨s, hs⟩ := vec_open Tryz.underlying24 cellsA16 h
    exact ⟨s, hs, trivial⟩) Tryz.underlying23 hf
  exact ⟨l, h1, h3⟩
theorem cm_open {fuel : Nat} {cs : List Value} {x : DataW H × List MemPlace} (hf : DataW.trod enc Tryz.prog W base sp held fuel 26 cs = some x) : ∃ (c : Cm) (v : Value), cs = cmC c v ∧ AutsAt W v c.mods := by
  have hl := (struct_len Tryz.underlying26 hf).trans cellsC
  obtain ⟨_, _, h0⟩ := field_open Tryz.underlying26 hf 0 _ rfl 3 0 1 rfl rfl cellsInt
  obtain ⟨_, _, h1⟩ := field_open Tryz.underlying26 hf 1 _ rfl 22 1 32 rfl rfl cellsA32
  obtain ⟨_, _, h2⟩ := field_open Tryz.underlying26 hf 2 _ rfl 9 33 1 rfl rfl cellsStr
  obtain ⟨_, _, h3⟩ := field_open Tryz.underlying26 hf 3 _ rfl 3 34 1 rfl rfl cellsInt
  obtain ⟨_, _, h4⟩ := field_open Tryz.underlying26 hf 4 _ rfl 4 35 1 rfl rfl cellsBool
  obtain ⟨_, _, h5⟩ := field_open Tryz.underlying26 hf 5 _ rfl 23 36 1 rfl rfl cellsSlA16
  obtain ⟨_, _, h6⟩ := field_open Tryz.underlying26 hf 6 _ rfl 9 37 1 rfl rfl cellsStr
  obtain ⟨_, _, h7⟩ := field_open Tryz.underlying26 hf 7 _ rfl 3 38 1 rfl rfl cellsInt
  obtain ⟨_, _, h8⟩ := field_open Tryz.underlying26 hf 8 _ rfl 3 39 1 rfl rfl cellsInt
  obtain ⟨_, _, h9⟩ := field_open Tryz.underlying26 hf 9 _ rfl 24 40 16 rfl rfl cellsA16
  obtain ⟨kd, e0, _⟩ := DataW.trod_int Tryz.underlying3 h0
  obtain ⟨tg, e1⟩ := vec_open Tryz.underlying22 cellsA32 h1
  obtain ⟨g, e2, _⟩ := DataW.trod_string Tryz.underlying9 h2
  obtain ⟨vn, e3, _⟩ := DataW.trod_int Tryz.underlying3 h3
  obtain ⟨md, e4, _⟩ := DataW.trod_bool Tryz.underlying4 h4
  obtain ⟨ga, gl, gc, e5⟩ : ∃ ga gl gc, rowOf cs 36 1 = [.slice ga gl gc] := by
    rcases Go.Deep.open_slice Tryz.underlying23 h5 with ⟨hcs, _⟩ | ⟨_, _, _, _, _, _, _, hcs, _⟩
    · exact ⟨_, _, _, hcs⟩
    · exact ⟨_, _, _, hcs⟩
  obtain ⟨tx, e6, _⟩ := DataW.trod_string Tryz.underlying9 h6
  obtain ⟨nu, e7, _⟩ := DataW.trod_int Tryz.underlying3 h7
  obtain ⟨ht, e8, _⟩ := DataW.trod_int Tryz.underlying3 h8
  obtain ⟨rt, e9⟩ := vec_open Tryz.underlying24 cellsA16 h9
  rw [e5] at h5
  obtain ⟨l, hla, _⟩ := auts16_open h5
  refine ⟨⟨kd, tg, g, vn, md, l, tx, nu, ht, rt⟩, .slice ga gl gc, ?_, hla⟩
  have s0 := drop_row cs 0 1
  have s1 := drop_row cs 1 32
  have s2 := drop_row cs 33 1
  have s3 := drop_row cs 34 1
  have s4 := drop_row cs 35 1
  have s5 := drop_row cs 36 1
  have s6 := drop_row cs 37 1
  have s7 := drop_row cs 38 1
  have s8 := drop_row cs 39 1
  have s9 := drop_row cs 40 16
  rw [List.drop_of_length_le (i := 40 + 16) (by omega)] at s9
  rw [e0, show 0 + 1 = 1 from rfl, s1, e1, show 1 + 32 = 33 from rfl, s2, e2, show 33 + 1 = 34 from rfl, s3, e3, show 34 + 1 = 35 from rfl, s4, e4, show 35 + 1 = 36 from rfl, s5, e5, show 36 + 1 = 37 from rfl, s6, e6, show 37 + 1 = 38 from rfl, s7, e7, show 38 + 1 = 39 from rfl, s8, e8, show 39 + 1 = 40 from rfl, s9, e9] at s0
  simpa [cmC, pubC] using s0
end
end Go.Proofs.YtcdcmohccbhchaaGreatDoor

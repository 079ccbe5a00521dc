/- How the statements' arguments lie, read off their readings: byte arrays, cancellations, rows, definitions, slices of these. -/
import Derived.Test.YtemhfcfebkjioaaGreatDoorFew
import Derived.ProofKit
import Derived.OpenShut
import Derived.ChangeSame
import Derived.Deep.Slices
namespace Go.Proofs.YtemhfcfebkjioaaGreatDoor
open Go.ChangeShapes Go.WideShapes Go.ChangeAt Go.RowKit

theorem drop_row (cs : List Value) (k n : Nat) : cs.drop k = rowOf cs k n ++ cs.drop (k + n) := by
  unfold rowOf; rw [← List.drop_drop, List.take_append_drop]
theorem bytes_list : ∀ cs : List Value, (∀ u ∈ cs, ∃ b : UInt8, u = .int .u8 (b.toNat : Int)) → ∃ l : List UInt8, cs = l.map fun b => .int .u8 (b.toNat : Int)
  | [], _ => ⟨[], rfl⟩
  | u :: cs, h => by
    obtain ⟨b, rfl⟩ := h u (by simp)
    obtain ⟨l, rfl⟩ := bytes_list cs (fun x hx => h x (by simp [hx]))
    exact ⟨b :: l, rfl⟩
theorem list_of {α : Type} {p : Nat → α → Prop} : ∀ n : Nat, (∀ i, i < n → ∃ a, p i a) → ∃ l : List α, l.length = n ∧ ∀ i (h : i < l.length), p i l[i]
  | 0, _ => ⟨[], rfl, fun i h => by simp at h⟩
  | n + 1, h => by
    obtain ⟨l, hl, hp⟩ := list_of n (fun i hi => h i (by omega))
    obtain ⟨a, ha⟩ := h n (by omega)
    refine ⟨l ++ [a], by simp [hl], fun i hi => ?_⟩
    simp only [List.length_append, List.length_singleton] at hi
    by_cases e : i < l.length
    · rw [List.getElem_append_left e]; exact hp i e
    · obtain rfl : i = l.length := by omega
      rw [List.getElem_concat_length rfl, hl]; exact ha

section
variable {H : Type} {enc : TypeId × Value → H} {W : World} {base : Nat} {sp : Nat → Bool} {held : Bool}

theorem vec_open {n : Nat} {t : TypeId} (hu : Tryz.prog.underlying t = some (.array n 5)) (hC : Tryz.prog.cellsOf t = n) {fuel : Nat} {cs : List Value} {x : DataW H × List MemPlace}
    (hf : DataW.trod enc Tryz.prog W base sp held fuel t cs = some x) : ∃ v : Vector UInt8 n, cs = bC v := by
  obtain ⟨xs, m, _, _, hlen, hxl, hi⟩ := DataW.trod_array hu hf
  rw [hC] at hlen
  obtain ⟨l, rfl⟩ := bytes_list cs (fun u hu' => by
    obtain ⟨i, hil, rfl⟩ := List.getElem_of_mem hu'
    have h := hi i (by omega)
    rw [cellsByte, Nat.mul_one, List.drop_eq_getElem_cons hil, List.take_succ_cons, List.take_zero, List.getElem?_eq_getElem (by omega)] at h
    obtain ⟨z, hz, _, hw⟩ := DataW.trod_int Tryz.underlying5 h
    have hb := bounds_u8 hw
    refine ⟨UInt8.ofNat z.toNat, ?_⟩
    simp only [List.cons.injEq, and_true] at hz
    have e : ((UInt8.ofNat z.toNat).toNat : Int) = z := by simp; omega
    rw [hz, e])
  rw [List.length_map] at hlen
  exact ⟨⟨l.toArray, by simpa using hlen⟩, by simp [bC]⟩

theorem field_open {t : TypeId} {fs : Array Field} (ht : Tryz.prog.underlying t = some (.struct fs)) {fuel : Nat} {cs : List Value} {x : DataW H × List MemPlace}
    (hf : DataW.trod enc Tryz.prog W base sp held fuel t cs = some x) (i : Nat) (f : Field) (hi : fs[i]? = some f) (ty : TypeId) (off sz : Nat) (h1 : f.type = ty) (h2 : f.offset = off) (h3 : Tryz.prog.cellsOf ty = sz) :
    ∃ n y, DataW.trod enc Tryz.prog W base sp held n ty (rowOf cs off sz) = some y := by
  obtain ⟨xs, n, _, _, _, hxl, hg⟩ := DataW.trod_struct ht hf
  have h := hg i f hi
  have hlt : i < xs.length := by rw [hxl]; exact (Array.getElem?_eq_some_iff.1 hi).1
  rw [h1, h2, h3, List.getElem?_eq_getElem hlt] at h
  exact ⟨n, _, h⟩
theorem struct_len {t : TypeId} {fs : Array Field} (ht : Tryz.prog.underlying t = some (.struct fs)) {fuel : Nat} {cs : List Value} {x : DataW H × List MemPlace}
    (hf : DataW.trod enc Tryz.prog W base sp held fuel t cs = some x) : cs.length = Tryz.prog.cellsOf t := by
  obtain ⟨xs, n, _, _, hl, _, _⟩ := DataW.trod_struct ht hf
  exact hl
theorem cellsInt : Tryz.prog.cellsOf 3 = 1 := by kernel_rfl
theorem cellsStr : Tryz.prog.cellsOf 9 = 1 := by kernel_rfl
theorem cellsBool : Tryz.prog.cellsOf 4 = 1 := by kernel_rfl
theorem cellsSlStr : Tryz.prog.cellsOf 28 = 1 := by kernel_rfl
theorem cellsSlId : Tryz.prog.cellsOf 29 = 1 := by kernel_rfl
theorem cellsSlAut : Tryz.prog.cellsOf 50 = 1 := by kernel_rfl

theorem spot_none {a : Addr} {v : Value} (h : W.cell? a = some v) : a.spot = none := World.cell?_spot h

/-- A slice opened: its elements one by one. -/
theorem sl_open {t e : TypeId} {size : Nat} (hs : 0 < size) (hC : Tryz.prog.cellsOf e = size) {α : Type} (F : α → List Value) (Good : α → Prop)
    (hel : ∀ n cs' (y : DataW H × List MemPlace), DataW.trod enc Tryz.prog W base sp held n e cs' = some y → ∃ a : α, cs' = F a ∧ Good a)
    (ht : Tryz.prog.underlying t = some (.slice e)) {fuel : Nat} {v : Value} {x : DataW H × List MemPlace} (hf : DataW.trod enc Tryz.prog W base sp held fuel t [v] = some x) :
    ∃ l : List α, SlAt W v size (l.map F) ∧ (∀ a ∈ l, Good a) ∧ l.length ≤ 9223372036854775807 := by
  rcases Go.Deep.open_slice ht hf with ⟨hcs, _⟩ | ⟨a, len, cap, m, n, D, Pl, hcs, _, hl, hm, hmm, _, hi⟩
  · simp only [List.cons.injEq, and_true] at hcs
    subst hcs
    exact ⟨[], ⟨none, 0, rfl, Nat.le_refl _, fun j hj => by simp at hj⟩, by simp, by simp⟩
  · simp only [List.cons.injEq, and_true] at hcs
    subst hcs
    have hlm : len ≤ m := by rw [hmm]; split <;> omega
    unfold maxLen at hm
    rw [hC] at hi
    obtain ⟨l, hll, hp⟩ := list_of (p := fun i (z : α) => W.cells? base (a.add (i * size)) size = some (F z) ∧ Good z) len (fun i hil => by
      obtain ⟨cs', h1, h2⟩ := hi i (by omega)
      obtain ⟨z, hz, hgz⟩ := hel n cs' _ h2
      exact ⟨z, by rw [h1, hz], hgz⟩)
    refine ⟨l, ⟨some a, cap, by rw [List.length_map, hll], by rw [List.length_map, hll]; exact hl, fun j hj => ?_⟩, fun z hz => ?_, by omega⟩
    · rw [List.length_map] at hj
      obtain ⟨h1, _⟩ := hp j hj
      obtain ⟨_, hlen, hcell⟩ := World.cells?_some h1
      obtain ⟨blk, off, spot⟩ := a
      have hsome : ∀ i, i < size → ∃ u, W.cell? (((⟨blk, off, spot⟩ : Addr).add (j * size)).add i) = some u := fun i hi' => ⟨_, (hcell i hi').trans (List.getElem?_eq_getElem (by omega))⟩
      have hspot : spot = none := by
        obtain ⟨k1, _⟩ := hp 0 (by omega)
        obtain ⟨_, hl0, hc0⟩ := World.cells?_some k1
        have h5 := spot_none ((hc0 0 hs).trans (List.getElem?_eq_getElem (by omega)))
        rw [Nat.zero_mul] at h5
        exact h5
      subst hspot
      rw [Addr.add_lit] at hcell
      have hsome' : ∀ i, i < size → ∃ u, W.cell? ((⟨blk, off + j * size, none⟩ : Addr).add i) = some u := fun i hi' => by have h6 := hsome i hi'; rw [Addr.add_lit] at h6; exact h6
      refine ⟨blk, off, rfl, ?_, ?_, ?_⟩
      · obtain ⟨u, hu⟩ := hsome' 0 hs
        have h7 := World.block_lt_of_cell? W _ hu
        rwa [add_block] at h7
      · rw [hasRow_iff]; intro i hi'; obtain ⟨u, hu⟩ := hsome' i hi'; rw [hu]; rfl
      · rw [List.getElem_map]
        apply List.ext_getElem?
        intro i
        rw [rowAt, List.getElem?_map]
        by_cases hi' : i < size
        · rw [List.getElem?_range hi', Option.map_some, hcell i hi', List.getElem?_eq_getElem (by omega)]; rfl
        · rw [List.getElem?_eq_none (by simp; omega), List.getElem?_eq_none (by omega)]; rfl
    · obtain ⟨i, hil, rfl⟩ := List.getElem_of_mem hz
      exact (hp i hil).2

theorem strs_open {fuel : Nat} {v : Value} {x : DataW H × List MemPlace} (hf : DataW.trod enc Tryz.prog W base sp held fuel 28 [v] = some x) : ∃ gs, StrsAt W v gs := by
  obtain ⟨l, ⟨a, cap, hv, hc, hj⟩, _, _⟩ := sl_open (by decide) cellsStr (fun s : ByteArray => [Value.string s]) (fun _ => True) (fun n cs' y h => by
    obtain ⟨s, hs, _⟩ := DataW.trod_string Tryz.underlying9 h
    exact ⟨s, hs, trivial⟩) Tryz.underlying28 hf
  refine ⟨l, a, cap, by rw [hv, List.length_map], fun j h => ?_⟩
  obtain ⟨b, k, ha, hb, h1, h2⟩ := hj j (by simpa using h)
  refine ⟨b, k, ha, hb, ?_⟩
  obtain ⟨u, hu⟩ := Option.isSome_iff_exists.1 (hasRow_iff.1 h1 0 (by decide))
  rw [List.getElem_map] at h2
  simp only [Nat.mul_one] at hu h2
  rw [Addr.add_lit, Nat.add_zero] at hu
  simp only [rowAt, List.range_one, List.map_cons, List.map_nil, Addr.add_lit, Nat.add_zero, hu, Option.getD_some, List.cons.injEq, and_true] at h2
  rw [hu, h2]
theorem auts_open {fuel : Nat} {v : Value} {x : DataW H × List MemPlace} (hf : DataW.trod enc Tryz.prog W base sp held fuel 50 [v] = some x) : ∃ l, AutsAt W v l ∧ l.length ≤ 9223372036854775807 := by
  obtain ⟨l, h1, _, h3⟩ := sl_open (by decide) cellsAut (fun s : Aut => bC s) (fun _ => True) (fun n cs' y h => by
    obtain ⟨s, hs⟩ := vec_open Tryz.underlying25 cellsAut h
    exact ⟨s, hs, trivial⟩) Tryz.underlying50 hf
  exact ⟨l, h1, h3⟩
def Dated (d : Int) : Prop := -9223372036854775808 ≤ d ∧ d ≤ 9223372036854775807
theorem canc_open {fuel : Nat} {cs : List Value} {x : DataW H × List MemPlace} (hf : DataW.trod enc Tryz.prog W base sp held fuel 27 cs = some x) : ∃ y : Canc, cs = cancC y ∧ Dated y.date := by
  have hl := (struct_len Tryz.underlying27 hf).trans cellsCanc
  obtain ⟨_, _, h0⟩ := field_open Tryz.underlying27 hf 0 _ rfl 23 0 32 rfl rfl cellsId
  obtain ⟨_, _, h1⟩ := field_open Tryz.underlying27 hf 1 _ rfl 25 32 16 rfl rfl cellsAut
  obtain ⟨_, _, h2⟩ := field_open Tryz.underlying27 hf 2 _ rfl 3 48 1 rfl rfl cellsInt
  obtain ⟨_, _, h3⟩ := field_open Tryz.underlying27 hf 3 _ rfl 23 49 32 rfl rfl cellsId
  obtain ⟨i, e0⟩ := vec_open Tryz.underlying23 cellsId h0
  obtain ⟨a, e1⟩ := vec_open Tryz.underlying25 cellsAut h1
  obtain ⟨d, e2, _, hw⟩ := DataW.trod_int Tryz.underlying3 h2
  obtain ⟨g, e3⟩ := vec_open Tryz.underlying23 cellsId h3
  refine ⟨⟨i, a, d, g⟩, ?_, bounds_i64 hw⟩
  have s0 := drop_row cs 0 32
  have s1 := drop_row cs 32 16
  have s2 := drop_row cs 48 1
  have s3 := drop_row cs 49 32
  rw [List.drop_of_length_le (i := 49 + 32) (by omega)] at s3
  rw [e0, show 0 + 32 = 32 from rfl, s1, e1, show 32 + 16 = 48 from rfl, s2, e2, show 48 + 1 = 49 from rfl, s3, e3] at s0
  simpa [cancC] using s0
def RwGood (W : World) (x : Rw) : Prop := (∃ gs, StrsAt W x.groups gs) ∧ oneB (rwC x) = true ∧ Dated x.date
theorem rw_one (x : Rw) (h1 : x.groups.oneCell' = true) (h2 : x.refs.oneCell' = true) : oneB (rwC x) = true := by
  simp only [rwC, oneB_append, oneB_cons, oneB_bC, h1, h2, Bool.true_and, Bool.and_true]; rfl
theorem rw_open {fuel : Nat} {cs : List Value} {x : DataW H × List MemPlace} (hf : DataW.trod enc Tryz.prog W base sp held fuel 31 cs = some x) : ∃ y : Rw, cs = rwC y ∧ RwGood W y := by
  have hl := (struct_len Tryz.underlying31 hf).trans cellsRw
  obtain ⟨_, _, h0⟩ := field_open Tryz.underlying31 hf 0 _ rfl 23 0 32 rfl rfl cellsId
  obtain ⟨_, _, h1⟩ := field_open Tryz.underlying31 hf 1 _ rfl 25 32 16 rfl rfl cellsAut
  obtain ⟨_, _, h2⟩ := field_open Tryz.underlying31 hf 2 _ rfl 3 48 1 rfl rfl cellsInt
  obtain ⟨_, _, h3⟩ := field_open Tryz.underlying31 hf 3 _ rfl 28 49 1 rfl rfl cellsSlStr
  obtain ⟨_, _, h4⟩ := field_open Tryz.underlying31 hf 4 _ rfl 29 50 1 rfl rfl cellsSlId
  obtain ⟨_, _, h5⟩ := field_open Tryz.underlying31 hf 5 _ rfl 23 51 32 rfl rfl cellsId
  obtain ⟨i, e0⟩ := vec_open Tryz.underlying23 cellsId h0
  obtain ⟨a, e1⟩ := vec_open Tryz.underlying25 cellsAut h1
  obtain ⟨d, e2, _, hw⟩ := DataW.trod_int Tryz.underlying3 h2
  obtain ⟨ga, gl, gc, e3⟩ : ∃ ga gl gc, rowOf cs 49 1 = [.slice ga gl gc] := by
    rcases Go.Deep.open_slice Tryz.underlying28 h3 with ⟨hcs, _⟩ | ⟨_, _, _, _, _, _, _, hcs, _⟩
    · exact ⟨_, _, _, hcs⟩
    · exact ⟨_, _, _, hcs⟩
  obtain ⟨ra, rl, rc, e4⟩ : ∃ ga gl gc, rowOf cs 50 1 = [.slice ga gl gc] := by
    rcases Go.Deep.open_slice Tryz.underlying29 h4 with ⟨hcs, _⟩ | ⟨_, _, _, _, _, _, _, hcs, _⟩
    · exact ⟨_, _, _, hcs⟩
    · exact ⟨_, _, _, hcs⟩
  obtain ⟨g, e5⟩ := vec_open Tryz.underlying23 cellsId h5
  rw [e3] at h3
  obtain ⟨gs, hgs⟩ := strs_open h3
  refine ⟨⟨i, a, d, .slice ga gl gc, .slice ra rl rc, g⟩, ?_, ⟨gs, hgs⟩, rw_one _ rfl rfl, bounds_i64 hw⟩
  have s0 := drop_row cs 0 32
  have s1 := drop_row cs 32 16
  have s2 := drop_row cs 48 1
  have s3 := drop_row cs 49 1
  have s4 := drop_row cs 50 1
  have s5 := drop_row cs 51 32
  rw [List.drop_of_length_le (i := 51 + 32) (by omega)] at s5
  rw [e0, show 0 + 32 = 32 from rfl, s1, e1, show 32 + 16 = 48 from rfl, s2, e2, show 48 + 1 = 49 from rfl, s3, e3, show 49 + 1 = 50 from rfl, s4, e4, show 50 + 1 = 51 from rfl, s5, e5] at s0
  simpa [rwC] using s0
theorem dfn_open {fuel : Nat} {cs : List Value} {x : DataW H × List MemPlace} (hf : DataW.trod enc Tryz.prog W base sp held fuel 52 cs = some x) : ∃ e : Dfn × List Aut, cs = dfnC e.1 ∧ (AutsAt W e.1.mods e.2 ∧ e.2.length ≤ 9223372036854775807) := by
  have hl := (struct_len Tryz.underlying52 hf).trans cellsDfn
  obtain ⟨_, _, h0⟩ := field_open Tryz.underlying52 hf 0 _ rfl 23 0 32 rfl rfl cellsId
  obtain ⟨_, _, h1⟩ := field_open Tryz.underlying52 hf 1 _ rfl 25 32 16 rfl rfl cellsAut
  obtain ⟨_, _, h2⟩ := field_open Tryz.underlying52 hf 2 _ rfl 9 48 1 rfl rfl cellsStr
  obtain ⟨_, _, h3⟩ := field_open Tryz.underlying52 hf 3 _ rfl 3 49 1 rfl rfl cellsInt
  obtain ⟨_, _, h4⟩ := field_open Tryz.underlying52 hf 4 _ rfl 4 50 1 rfl rfl cellsBool
  obtain ⟨_, _, h5⟩ := field_open Tryz.underlying52 hf 5 _ rfl 4 51 1 rfl rfl cellsBool
  obtain ⟨_, _, h6⟩ := field_open Tryz.underlying52 hf 6 _ rfl 50 52 1 rfl rfl cellsSlAut
  obtain ⟨_, _, h7⟩ := field_open Tryz.underlying52 hf 7 _ rfl 9 53 1 rfl rfl cellsStr
  obtain ⟨i, e0⟩ := vec_open Tryz.underlying23 cellsId h0
  obtain ⟨a, e1⟩ := vec_open Tryz.underlying25 cellsAut h1
  obtain ⟨g, e2, _⟩ := DataW.trod_string Tryz.underlying9 h2
  obtain ⟨d, e3, _⟩ := DataW.trod_int Tryz.underlying3 h3
  obtain ⟨b1, e4, _⟩ := DataW.trod_bool Tryz.underlying4 h4
  obtain ⟨b2, e5, _⟩ := DataW.trod_bool Tryz.underlying4 h5
  obtain ⟨ga, gl, gc, e6⟩ : ∃ ga gl gc, rowOf cs 52 1 = [.slice ga gl gc] := by
    rcases Go.Deep.open_slice Tryz.underlying50 h6 with ⟨hcs, _⟩ | ⟨_, _, _, _, _, _, _, hcs, _⟩
    · exact ⟨_, _, _, hcs⟩
    · exact ⟨_, _, _, hcs⟩
  obtain ⟨tx, e7, _⟩ := DataW.trod_string Tryz.underlying9 h7
  rw [e6] at h6
  obtain ⟨l, hla⟩ := auts_open h6
  refine ⟨(⟨i, a, g, d, b1, b2, .slice ga gl gc, tx⟩, l), ?_, hla⟩
  have s0 := drop_row cs 0 32
  have s1 := drop_row cs 32 16
  have s2 := drop_row cs 48 1
  have s3 := drop_row cs 49 1
  have s4 := drop_row cs 50 1
  have s5 := drop_row cs 51 1
  have s6 := drop_row cs 52 1
  have s7 := drop_row cs 53 1
  rw [List.drop_of_length_le (i := 53 + 1) (by omega)] at s7
  rw [e0, show 0 + 32 = 32 from rfl, s1, e1, show 32 + 16 = 48 from rfl, s2, e2, show 48 + 1 = 49 from rfl, s3, e3, show 49 + 1 = 50 from rfl, s4, e4, show 50 + 1 = 51 from rfl, s5, e5, show 51 + 1 = 52 from rfl, s6, e6, show 52 + 1 = 53 from rfl, s7, e7] at s0
  simpa [dfnC] using s0
theorem defs_open2 {fuel : Nat} {v : Value} {x : DataW H × List MemPlace} (hf : DataW.trod enc Tryz.prog W base sp held fuel 32 [v] = some x) : ∃ ds : List (Dfn × List Aut), DefsAt W v ds ∧ ds.length ≤ 9223372036854775807 ∧ ∀ e ∈ ds, e.2.length ≤ 9223372036854775807 := by
  obtain ⟨l, h1, h2, h3⟩ := sl_open (by decide) cellsDfn (fun e : Dfn × List Aut => dfnC e.1) (fun e => AutsAt W e.1.mods e.2 ∧ e.2.length ≤ 9223372036854775807) (fun n cs' y h => dfn_open h) Tryz.underlying32 hf
  exact ⟨l, ⟨h1, fun e he => (h2 e he).1⟩, h3, fun e he => (h2 e he).2⟩
theorem defs_open {fuel : Nat} {v : Value} {x : DataW H × List MemPlace} (hf : DataW.trod enc Tryz.prog W base sp held fuel 32 [v] = some x) : ∃ ds, DefsAt W v ds ∧ ds.length ≤ 9223372036854775807 := by
  obtain ⟨l, h1, h2, _⟩ := defs_open2 hf
  exact ⟨l, h1, h2⟩
theorem cancs_open {fuel : Nat} {v : Value} {x : DataW H × List MemPlace} (hf : DataW.trod enc Tryz.prog W base sp held fuel 40 [v] = some x) : ∃ l, CancsAt W v l ∧ (∀ y ∈ l, Dated y.date) ∧ l.length ≤ 9223372036854775807 :=
  sl_open (by decide) cellsCanc cancC (fun y => Dated y.date) (fun n cs' y h => canc_open h) Tryz.underlying40 hf
theorem rws_open {fuel : Nat} {v : Value} {x : DataW H × List MemPlace} (hf : DataW.trod enc Tryz.prog W base sp held fuel 35 [v] = some x) : ∃ l : List Rw, SlAt W v 83 (l.map rwC) ∧ (∀ y ∈ l, RwGood W y) ∧ l.length ≤ 9223372036854775807 :=
  sl_open (by decide) cellsRw rwC (RwGood W) (fun n cs' y h => rw_open h) Tryz.underlying35 hf
theorem ids_open {fuel : Nat} {v : Value} {x : DataW H × List MemPlace} (hf : DataW.trod enc Tryz.prog W base sp held fuel 29 [v] = some x) : ∃ l : List Id, SlAt W v 32 (l.map bC) ∧ l.length ≤ 9223372036854775807 := by
  obtain ⟨l, h1, _, h3⟩ := sl_open (by decide) cellsId (fun s : Id => bC s) (fun _ => True) (fun n cs' y h => by
    obtain ⟨s, hs⟩ := vec_open Tryz.underlying23 cellsId h
    exact ⟨s, hs, trivial⟩) Tryz.underlying29 hf
  exact ⟨l, h1, h3⟩
end
end Go.Proofs.YtemhfcfebkjioaaGreatDoor

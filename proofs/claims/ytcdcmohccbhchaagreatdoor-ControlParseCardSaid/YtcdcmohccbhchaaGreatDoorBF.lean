/- A world for the cards' witness: the settled one, the tables holding what they hold. How a command lies, read off its reading (chapter 17). small; Own: the reference's command as the program's, its authors copied. What the rows' lists give: the tables. -/
import Derived.Test.YtcdcmohccbhchaaGreatDoorRows
import Derived.Test.YtcdcmohccbhchaaGreatDoorBC
import Derived.Shelf.Vars
import Derived.DeepKeys4
import Derived.Maps.RangeWalk
import Derived.Maps.OwnSet
import Derived.Test.YtcdcmohccbhchaaGreatDoorBB
import Derived.Test.YtcdcmohccbhchaaGreatDoorBA
import Derived.ProofKit
import Derived.OpenShut
import Derived.ChangeSame
import Derived.Deep.Slices
import Derived.Test.YtcdcmohccbhchaaGreatDoorBE
import Derived.Lib.LaidTab
import Derived.LaidSub
namespace Go.Proofs.YtcdcmohccbhchaaGreatDoor
open Go.RowKit

theorem laidOut : laidOutB Tryz.prog = true := by kernel_rfl
theorem own : ownKnob Tryz.prog.godebug = none := by kernel_rfl
/-- Sixteen pairs of bounds. -/
def accCells : List Value := (([128, 191, 160, 191, 128, 159, 144, 191, 128, 143] : List Int) ++ List.replicate 22 0).map fun n => .int .u8 n
def firstCells : List Value := Go.Pinned.utf8FirstZ.map fun (n : Nat) => Value.int .u8 (n : Int)
def litV : DataW Unit → Value
  | .lit (.int k n) => .int k n
  | _ => undef
def aggV : DataW Unit → List Value
  | .agg l => l.map litV
  | _ => []
def layCells (cs : List Value) : Obj → Obj
  | .cells _ t frozen => .cells cs.toArray t frozen
  | o => o
noncomputable def laidWorld (os : Os) : World :=
  { World.holding Tryz.prog os ⟨#[], #[], []⟩ with heap := ((((((World.holding Tryz.prog os ⟨#[], #[], []⟩).heap.modify 5 (layCells firstCells)).modify 6 (layCells accCells)).modify 3 (layCells (aggV Rows.laid_math_bits_deBruijn32tab))).modify 4 (layCells (aggV Rows.laid_math_bits_deBruijn64tab))).modify 2 (layCells (aggV Rows.laid_internal_strconv_uint64pow10))).modify 0 (layCells (aggV Rows.laid_bulletin_base64_alphabet)) }
theorem env_of {W : World} (h : W.ShapedOpen Tryz.prog) : Env W := cell_of_shapedOpen_int (P := Tryz.prog) (g := 1) (t := 3) (zero := #[.int .i64 0]) h (of_decide_eq_true (by kernel_rfl)) (by kernel_rfl) rfl (by kernel_rfl) (by kernel_rfl) Tryz.underlying3
end Go.Proofs.YtcdcmohccbhchaaGreatDoor

namespace Go.Proofs.YtcdcmohccbhchaaGreatDoor
open Go.ChangeShapes Go.WideShapes Go.ChangeAt Go.RowKit

theorem drop_row (cs : List Value) (k n : Nat) : cs.drop k = rowOf cs k n ++ cs.drop (k + n) := by
  unfold rowOf; rw [← List.drop_drop, List.take_append_drop]
theorem bytes_list : ∀ cs : List Value, (∀ u ∈ cs, ∃ b : UInt8, u = .int .u8 (b.toNat : Int)) → ∃ l : List UInt8, cs = l.map fun b => .int .u8 (b.toNat : Int)
  | [], _ => ⟨[], rfl⟩
  | u :: cs, h => by
    obtain ⟨b, rfl⟩ := h u (by simp)
    obtain ⟨l, rfl⟩ := bytes_list cs (fun x hx => h x (by simp [hx]))
    exact ⟨b :: l, rfl⟩
theorem list_of {α : Type} {p : Nat → α → Prop} : ∀ n : Nat, (∀ i, i < n → ∃ a, p i a) → ∃ l : List α, l.length = n ∧ ∀ i (h : i < l.length), p i l[i]
  | 0, _ => ⟨[], rfl, fun i h => by simp at h⟩
  | n + 1, h => by
    obtain ⟨l, hl, hp⟩ := list_of n (fun i hi => h i (by omega))
    obtain ⟨a, ha⟩ := h n (by omega)
    refine ⟨l ++ [a], by simp [hl], fun i hi => ?_⟩
    simp only [List.length_append, List.length_singleton] at hi
    by_cases e : i < l.length
    · rw [List.getElem_append_left e]; exact hp i e
    · obtain rfl : i = l.length := by omega
      rw [List.getElem_concat_length rfl, hl]; exact ha

section
variable {H : Type} {enc : TypeId × Value → H} {W : World} {base : Nat} {sp : Nat → Bool} {held : Bool}

theorem vec_open {n : Nat} {t : TypeId} (hu : Tryz.prog.underlying t = some (.array n 5)) (hC : Tryz.prog.cellsOf t = n) {fuel : Nat} {cs : List Value} {x : DataW H × List MemPlace}
    (hf : DataW.trod enc Tryz.prog W base sp held fuel t cs = some x) : ∃ v : Vector UInt8 n, cs = bC v := by
  obtain ⟨xs, m, _, _, hlen, hxl, hi⟩ := DataW.trod_array hu hf
  rw [hC] at hlen
  obtain ⟨l, rfl⟩ := bytes_list cs (fun u hu' => by
    obtain ⟨i, hil, rfl⟩ := List.getElem_of_mem hu'
    have h := hi i (by omega)
    rw [cellsByte, Nat.mul_one, List.drop_eq_getElem_cons hil, List.take_succ_cons, List.take_zero, List.getElem?_eq_getElem (by omega)] at h
    obtain ⟨z, hz, _, hw⟩ := DataW.trod_int Tryz.underlying5 h
    have hb := bounds_u8 hw
    refine ⟨UInt8.ofNat z.toNat, ?_⟩
    simp only [List.cons.injEq, and_true] at hz
    have e : ((UInt8.ofNat z.toNat).toNat : Int) = z := by simp; omega
    rw [hz, e])
  rw [List.length_map] at hlen
  exact ⟨⟨l.toArray, by simpa using hlen⟩, by simp [bC]⟩

theorem field_open {t : TypeId} {fs : Array Field} (ht : Tryz.prog.underlying t = some (.struct fs)) {fuel : Nat} {cs : List Value} {x : DataW H × List MemPlace}
    (hf : DataW.trod enc Tryz.prog W base sp held fuel t cs = some x) (i : Nat) (f : Field) (hi : fs[i]? = some f) (ty : TypeId) (off sz : Nat) (h1 : f.type = ty) (h2 : f.offset = off) (h3 : Tryz.prog.cellsOf ty = sz) :
    ∃ n y, DataW.trod enc Tryz.prog W base sp held n ty (rowOf cs off sz) = some y := by
  obtain ⟨xs, n, _, _, _, hxl, hg⟩ := DataW.trod_struct ht hf
  have h := hg i f hi
  have hlt : i < xs.length := by rw [hxl]; exact (Array.getElem?_eq_some_iff.1 hi).1
  rw [h1, h2, h3, List.getElem?_eq_getElem hlt] at h
  exact ⟨n, _, h⟩
theorem struct_len {t : TypeId} {fs : Array Field} (ht : Tryz.prog.underlying t = some (.struct fs)) {fuel : Nat} {cs : List Value} {x : DataW H × List MemPlace}
    (hf : DataW.trod enc Tryz.prog W base sp held fuel t cs = some x) : cs.length = Tryz.prog.cellsOf t := by
  obtain ⟨xs, n, _, _, hl, _, _⟩ := DataW.trod_struct ht hf
  exact hl
theorem cellsInt : Tryz.prog.cellsOf 3 = 1 := by kernel_rfl
theorem cellsStr : Tryz.prog.cellsOf 9 = 1 := by kernel_rfl
theorem cellsBool : Tryz.prog.cellsOf 4 = 1 := by kernel_rfl
theorem cellsSlA16 : Tryz.prog.cellsOf 23 = 1 := by kernel_rfl

theorem spot_none {a : Addr} {v : Value} (h : W.cell? a = some v) : a.spot = none := World.cell?_spot h

/-- A slice opened: its elements one by one. -/
theorem sl_open {t e : TypeId} {size : Nat} (hs : 0 < size) (hC : Tryz.prog.cellsOf e = size) {α : Type} (F : α → List Value) (Good : α → Prop)
    (hel : ∀ n cs' (y : DataW H × List MemPlace), DataW.trod enc Tryz.prog W base sp held n e cs' = some y → ∃ a : α, cs' = F a ∧ Good a)
    (ht : Tryz.prog.underlying t = some (.slice e)) {fuel : Nat} {v : Value} {x : DataW H × List MemPlace} (hf : DataW.trod enc Tryz.prog W base sp held fuel t [v] = some x) :
    ∃ l : List α, SlAt W v size (l.map F) ∧ (∀ a ∈ l, Good a) ∧ l.length ≤ 9223372036854775807 := by
  rcases Go.Deep.open_slice ht hf with ⟨hcs, _⟩ | ⟨a, len, cap, m, n, D, Pl, hcs, _, hl, hm, hmm, _, hi⟩
  · simp only [List.cons.injEq, and_true] at hcs
    subst hcs
    exact ⟨[], ⟨none, 0, rfl, Nat.le_refl _, fun j hj => by simp at hj⟩, by simp, by simp⟩
  · simp only [List.cons.injEq, and_true] at hcs
    subst hcs
    have hlm : len ≤ m := by rw [hmm]; split <;> omega
    unfold maxLen at hm
    rw [hC] at hi
    obtain ⟨l, hll, hp⟩ := list_of (p := fun i (z : α) => W.cells? base (a.add (i * size)) size = some (F z) ∧ Good z) len (fun i hil => by
      obtain ⟨cs', h1, h2⟩ := hi i (by omega)
      obtain ⟨z, hz, hgz⟩ := hel n cs' _ h2
      exact ⟨z, by rw [h1, hz], hgz⟩)
    refine ⟨l, ⟨some a, cap, by rw [List.length_map, hll], by rw [List.length_map, hll]; exact hl, fun j hj => ?_⟩, fun z hz => ?_, by omega⟩
    · rw [List.length_map] at hj
      obtain ⟨h1, _⟩ := hp j hj
      obtain ⟨_, hlen, hcell⟩ := World.cells?_some h1
      obtain ⟨blk, off, spot⟩ := a
      have hsome : ∀ i, i < size → ∃ u, W.cell? (((⟨blk, off, spot⟩ : Addr).add (j * size)).add i) = some u := fun i hi' => ⟨_, (hcell i hi').trans (List.getElem?_eq_getElem (by omega))⟩
      have hspot : spot = none := by
        obtain ⟨k1, _⟩ := hp 0 (by omega)
        obtain ⟨_, hl0, hc0⟩ := World.cells?_some k1
        have h5 := spot_none ((hc0 0 hs).trans (List.getElem?_eq_getElem (by omega)))
        rw [Nat.zero_mul] at h5
        exact h5
      subst hspot
      rw [Addr.add_lit] at hcell
      have hsome' : ∀ i, i < size → ∃ u, W.cell? ((⟨blk, off + j * size, none⟩ : Addr).add i) = some u := fun i hi' => by have h6 := hsome i hi'; rw [Addr.add_lit] at h6; exact h6
      refine ⟨blk, off, rfl, ?_, ?_, ?_⟩
      · obtain ⟨u, hu⟩ := hsome' 0 hs
        have h7 := World.block_lt_of_cell? W _ hu
        rwa [add_block] at h7
      · rw [hasRow_iff]; intro i hi'; obtain ⟨u, hu⟩ := hsome' i hi'; rw [hu]; rfl
      · rw [List.getElem_map]
        apply List.ext_getElem?
        intro i
        rw [rowAt, List.getElem?_map]
        by_cases hi' : i < size
        · rw [List.getElem?_range hi', Option.map_some, hcell i hi', List.getElem?_eq_getElem (by omega)]; rfl
        · rw [List.getElem?_eq_none (by simp; omega), List.getElem?_eq_none (by omega)]; rfl
    · obtain ⟨i, hil, rfl⟩ := List.getElem_of_mem hz
      exact (hp i hil).2

theorem auts16_open {fuel : Nat} {v : Value} {x : DataW H × List MemPlace} (hf : DataW.trod enc Tryz.prog W base sp held fuel 23 [v] = some x) : ∃ l, AutsAt W v l ∧ l.length ≤ 9223372036854775807 := by
  obtain ⟨l, h1, _, h3⟩ := sl_open (by decide) cellsA16 (fun s : Aut => bC s) (fun _ => True) (fun n cs' y h => by
    obtain ⟨s, hs⟩ := vec_open Tryz.underlying24 cellsA16 h
    exact ⟨s, hs, trivial⟩) Tryz.underlying23 hf
  exact ⟨l, h1, h3⟩
theorem cm_open {fuel : Nat} {cs : List Value} {x : DataW H × List MemPlace} (hf : DataW.trod enc Tryz.prog W base sp held fuel 26 cs = some x) : ∃ (c : Cm) (v : Value), cs = cmC c v ∧ AutsAt W v c.mods := by
  have hl := (struct_len Tryz.underlying26 hf).trans cellsC
  obtain ⟨_, _, h0⟩ := field_open Tryz.underlying26 hf 0 _ rfl 3 0 1 rfl rfl cellsInt
  obtain ⟨_, _, h1⟩ := field_open Tryz.underlying26 hf 1 _ rfl 22 1 32 rfl rfl cellsA32
  obtain ⟨_, _, h2⟩ := field_open Tryz.underlying26 hf 2 _ rfl 9 33 1 rfl rfl cellsStr
  obtain ⟨_, _, h3⟩ := field_open Tryz.underlying26 hf 3 _ rfl 3 34 1 rfl rfl cellsInt
  obtain ⟨_, _, h4⟩ := field_open Tryz.underlying26 hf 4 _ rfl 4 35 1 rfl rfl cellsBool
  obtain ⟨_, _, h5⟩ := field_open Tryz.underlying26 hf 5 _ rfl 23 36 1 rfl rfl cellsSlA16
  obtain ⟨_, _, h6⟩ := field_open Tryz.underlying26 hf 6 _ rfl 9 37 1 rfl rfl cellsStr
  obtain ⟨_, _, h7⟩ := field_open Tryz.underlying26 hf 7 _ rfl 3 38 1 rfl rfl cellsInt
  obtain ⟨_, _, h8⟩ := field_open Tryz.underlying26 hf 8 _ rfl 3 39 1 rfl rfl cellsInt
  obtain ⟨_, _, h9⟩ := field_open Tryz.underlying26 hf 9 _ rfl 24 40 16 rfl rfl cellsA16
  obtain ⟨kd, e0, _⟩ := DataW.trod_int Tryz.underlying3 h0
  obtain ⟨tg, e1⟩ := vec_open Tryz.underlying22 cellsA32 h1
  obtain ⟨g, e2, _⟩ := DataW.trod_string Tryz.underlying9 h2
  obtain ⟨vn, e3, _⟩ := DataW.trod_int Tryz.underlying3 h3
  obtain ⟨md, e4, _⟩ := DataW.trod_bool Tryz.underlying4 h4
  obtain ⟨ga, gl, gc, e5⟩ : ∃ ga gl gc, rowOf cs 36 1 = [.slice ga gl gc] := by
    rcases Go.Deep.open_slice Tryz.underlying23 h5 with ⟨hcs, _⟩ | ⟨_, _, _, _, _, _, _, hcs, _⟩
    · exact ⟨_, _, _, hcs⟩
    · exact ⟨_, _, _, hcs⟩
  obtain ⟨tx, e6, _⟩ := DataW.trod_string Tryz.underlying9 h6
  obtain ⟨nu, e7, _⟩ := DataW.trod_int Tryz.underlying3 h7
  obtain ⟨ht, e8, _⟩ := DataW.trod_int Tryz.underlying3 h8
  obtain ⟨rt, e9⟩ := vec_open Tryz.underlying24 cellsA16 h9
  rw [e5] at h5
  obtain ⟨l, hla, _⟩ := auts16_open h5
  refine ⟨⟨kd, tg, g, vn, md, l, tx, nu, ht, rt⟩, .slice ga gl gc, ?_, hla⟩
  have s0 := drop_row cs 0 1
  have s1 := drop_row cs 1 32
  have s2 := drop_row cs 33 1
  have s3 := drop_row cs 34 1
  have s4 := drop_row cs 35 1
  have s5 := drop_row cs 36 1
  have s6 := drop_row cs 37 1
  have s7 := drop_row cs 38 1
  have s8 := drop_row cs 39 1
  have s9 := drop_row cs 40 16
  rw [List.drop_of_length_le (i := 40 + 16) (by omega)] at s9
  rw [e0, show 0 + 1 = 1 from rfl, s1, e1, show 1 + 32 = 33 from rfl, s2, e2, show 33 + 1 = 34 from rfl, s3, e3, show 34 + 1 = 35 from rfl, s4, e4, show 35 + 1 = 36 from rfl, s5, e5, show 36 + 1 = 37 from rfl, s6, e6, show 37 + 1 = 38 from rfl, s7, e7, show 38 + 1 = 39 from rfl, s8, e8, show 39 + 1 = 40 from rfl, s9, e9] at s0
  simpa [cmC, pubC] using s0
end
end Go.Proofs.YtcdcmohccbhchaaGreatDoor

namespace Go.Proofs.YtcdcmohccbhchaaGreatDoor
open Go.RowKit

def smallB (c : Cm) : Bool := decide (c.group.size ≤ 200) && (decide (c.mods.length ≤ 20) && decide (c.text.size ≤ 400))
theorem small_mods {c : Cm} (h : smallB c = true) : c.mods.length ≤ 20 ∧ c.text.size ≤ 400 ∧ c.group.size ≤ 200 := by
  unfold smallB at h
  simp only [Bool.and_eq_true, decide_eq_true_eq] at h
  exact ⟨h.2.1, h.2.2, h.1⟩
set_option maxRecDepth 100000 in
set_option maxHeartbeats 2000000 in
theorem smallC (c : Cm) (v : Value) (w : World) (hv : AutsAt w v c.mods) :
    Calls Tryz.prog 13 #[.agg (cmC c v).toArray] w fun e w' => e = .returned (.bool (smallB c)) ∧ Gr w w' := by
  have G0 := Lib.hid ((Gr.refl w).alloc (.cells (cmC c v).toArray 26))
  obtain ⟨a, cap, hsl, _⟩ := hv
  rw [List.length_map] at hsl
  subst hsl
  have HB : Hid (smallB c = (decide (c.group.size ≤ 200) && (decide (c.mods.length ≤ 20) && decide (c.text.size ≤ 400)))) := rfl
  generalize smallB c = r at *
  generalize c.mods.length = n at *
  by_cases h1 : c.group.size ≤ 200 <;> by_cases h2 : n ≤ 20 <;> by_cases h3 : c.text.size ≤ 400
  all_goals
    have i1 : decide ((c.group.size : Int) ≤ 200) = decide (c.group.size ≤ 200) := by rw [decide_eq_decide]; omega
    have i2 : decide ((n : Int) ≤ 20) = decide (n ≤ 20) := by rw [decide_eq_decide]; omega
    have i3 : decide ((c.text.size : Int) ≤ 400) = decide (c.text.size ≤ 400) := by rw [decide_eq_decide]; omega
    go_enter Tryz.func13, Tryz.ntmps13
    go_wp2_with fail
    all_goals
      go_ret
      refine ⟨ret_bool ?_, G0.out⟩
      rw [HB.out]
      simp_all

/-! ### a slice of one author -/
def bsR (P : Program) (t : TypeId) (n : Nat) (ps : Array (Nat × Value)) (w : World) : Result Next := (do pure (Next.value (← Instr.buildSlice t n ps)) : Sem Next).run P w
@[local go_sem ↓] theorem exec_bsl {P : Program} (ρ : Operand → Value) (d : Option Tmp) (ps : Array (Nat × Operand)) (ty : TypeId) (p : String) (af : Array Edge) (g : Option (Nat × Bool)) (w : World) :
    Sem.run P (execOp ρ ⟨d, .buildSlice 33 1 ps, ty, p, af, g⟩) w = bsR P 33 1 (ps.map fun x => (x.1, ρ x.2)) w := rfl
theorem bs_of {P : Program} {t : TypeId} {n : Nat} {ps : Array (Nat × Value)} {v : Value} {w w' : World} (h : (Instr.buildSlice t n ps).run P w = .ok v w') : bsR P t n ps w = .ok (.value v) w' := by simp [bsR, h]
theorem bSl1F (f : Nat → Value) (w : World) : (Instr.buildSlice 33 1 #[(0, .agg ((List.range 16).map f).toArray)]).run Tryz.prog w = .ok (.slice (some ⟨w.heap.size, 0, none⟩) 1 1) (w.alloc (.cells ((List.range 16).map f).toArray 52)) := by kernel_rfl
@[local go_sem] theorem kSl1 (y : Aut) (w : World) : bsR Tryz.prog 33 1 #[(0, .agg (bC y).toArray)] w = .ok (.value (.slice (some ⟨w.heap.size, 0, none⟩) 1 1)) (w.alloc (.cells (bC y).toArray 52)) := bs_of (by rw [bC_exp]; exact bSl1F _ w)
set_option maxRecDepth 100000 in
set_option maxHeartbeats 4000000 in
theorem ownC (c : Cm) (l : List Aut) (v : Value) (w : World) (hv : AutsAt w v l) (hl : l.length ≤ 1000000) :
    Calls Tryz.prog 15 #[.agg (cmC c v).toArray] w fun e w' => ∃ a n k, e = .returned (.agg (cmC c (.slice a n k)).toArray) ∧ AutsAt w' (.slice a n k) l ∧ Gr w w' := by
  obtain ⟨a, cap, rfl, hc, hj⟩ := hv
  have e1 : (l.map bC).length = l.length := by simp
  rw [e1] at hc ⊢
  have HI := Lib.hid (info_parts infoAut)
  have HJ := Lib.hid hj
  clear hj e1
  go_enter Tryz.func15, Tryz.ntmps15
  go_wp2_with fail
  go_loopw [3, 4, 5, 6, 7, 8, 9, 10, 11, 12, 13, 14, 15, 16, 17, 18, 19] (fun cv i _ _ _ _ _ _ _ _ _ _ _ _ _ _ _ wr => ∃ k : Nat, k ≤ l.length ∧ i = .int .i64 k ∧ Hid (Gr w wr) ∧ Hid (wr.heap[w.heap.size]? = some (.cells (cmC c (.slice a l.length cap)).toArray 26 (0, 0))) ∧ Hid (wr.heap[w.heap.size + 1]? = some (.cells (cmC (cm0 0) nilV).toArray 37 (0, 0))) ∧ Hid (wr.ownsRow (w.heap.size + 2) 52 16 cv k ((l.take k).map bC).flatten)) (fun _ i _ _ _ _ _ _ _ _ _ _ _ _ _ _ _ _ => l.length - (intOf i).toNat)
  case atStart => exact ⟨0, Nat.zero_le _, rfl, ((Gr.refl w).alloc _).alloc _, heap_alloc2_old w _ _, heap_alloc2_new w _ _, ⟨rfl, .inl ⟨rfl, rfl⟩⟩⟩
  case round =>
    obtain ⟨k, hk, rfl, hG, h3, h6, hown⟩ := hrel
    have s3 := (Array.getElem?_eq_some_iff.1 h3.out).1
    have s6 := (Array.getElem?_eq_some_iff.1 h6.out).1
    obtain ⟨c0, c33, c34, c35, c36, c37, c38, c39, r1, q1, r39, q39, r40, q40, r0, q0, z1⟩ := cm_facts h3.out
    by_cases hlt : k < l.length
    · obtain ⟨b, o, rfl, hb, p1, p2⟩ := HJ.out k (by simpa using hlt)
      have u1 := (hG.out.hasRow hb).trans p1
      have u2 := (hG.out.rowAt hb).trans p2
      rw [List.getElem_map] at u2
      have HTK : Hid (l.take (k + 1) = l.take k ++ [l[k]]) := List.take_succ_eq_append_getElem hlt
      have hbw : b < wr.heap.size := Nat.lt_of_lt_of_le hb hG.out.size
      have hk1 : (k : Int) < (l.length : Int) := by omega
      have hk2 : (0 : Int) ≤ (k : Int) := by omega
      clear p1 p2 r39 q39 r40 q40 r0 q0 r1 q1
      generalize l[k] = y at *
      have hnews : Hid (∀ j u, (bC y)[j]? = some u → (wr.alloc (.cells (bC y).toArray 52)).cell? ((⟨wr.heap.size, 0, none⟩ : Addr).add j) = some u) := by
        intro j u hu
        rw [Addr.add_lit, Nat.zero_add, World.cell?_alloc_new]; simpa using hu
      have hnl : Hid ((bC y).length = 1 * 16) := by show _ = _; rw [bC_length]
      have h1c : Hid (∀ u ∈ bC y, u.oneCell' = true) := fun u hu => List.all_eq_true.1 (oneB_bC y) u hu
      have O2 := Lib.hid (hown.out.alloc (.cells (bC y).toArray 52))
      obtain ⟨i0, hi, hz0, hz1, hz2⟩ := HI.out
      go_wp2_with (at_builtin; refine wpList_append_own _ rfl _ _ 33 rfl (w.heap.size + 2) 52 i0 _ 16 16 Tryz.underlying33 hi hz0 hz1 hz2 rfl (by decide) u3 k ((l.take k).map bC).flatten rfl O2.out ⟨wr.heap.size, 0, none⟩ 1 1 (bC y) rfl hnl.out hnews.out h1c.out (by unfold maxLen; omega) (by omega) (by simp; omega) ?_; intro v' w5 hown5 hgrow5 hnil5)
      go_roundw
      case rel =>
        have hbl : ∀ k', u3.ownBlock = some k' → w.heap.size + 2 ≤ k' := fun k' hk' => (O2.out.lt k' hk').1
        refine ⟨k + 1, by omega, by go_num, ?_, ?_, ?_, ?_⟩
        · exact (hG.out.alloc _).grown hgrow5 (fun k' hk' => by have := hbl k' hk'; omega)
        · exact (hgrow5.block _ (by simp; omega) (fun e => by have := hbl _ e.symm; omega)).trans ((((Gr.refl wr).alloc _).block (by omega)).trans h3.out)
        · exact (hgrow5.block _ (by simp; omega) (fun e => by have := hbl _ e.symm; omega)).trans ((((Gr.refl wr).alloc _).block (by omega)).trans h6.out)
        · show World.ownsRow _ _ _ _ _ _ _
          rw [HTK.out, List.map_append, List.flatten_append]
          simpa using hown5
      case measure => simp [intOf]; omega
    · have hk1 : ¬ (k : Int) < (l.length : Int) := by omega
      have hke : k = l.length := by omega
      have hsl : Hid (AutsAt wr u3 l) := by
        refine slAt_of_owns (base := w.heap.size + 2) (e := 52) (map_bC_len l) ?_
        rw [List.length_map, ← hke]
        have := hown.out
        rwa [List.take_of_length_le (by omega)] at this
      have HLT : Hid (∀ k', u3.ownBlock = some k' → w.heap.size + 2 ≤ k') := fun k' hk' => (hown.out.lt k' hk').1
      obtain ⟨a', c', rfl, _⟩ := owns_slice hown.out
      clear hown hke
      have f6 := freeRow_block h6.out 0 56
      have g6 := hasRow_block h6.out 0 56 (by rw [cmC_length]; decide)
      clear r0 q0 r39 q39
      go_wp2_with fail
      have hw := sets_whole (cs := cmC c (.slice a' k c')) h6.out (by rw [cmC_length, cmC_length])
      refine bodyPost_ret (v := .agg (cmC c (.slice a' k c')).toArray) (results_cell_row rfl _ _ (w.heap.size + 1) _ _ _ _ rfl hw Tryz.underlying37 rfl (by rw [List.size_toArray, cmC_length]; kernel_rfl)) rfl ?_
      refine ⟨a', k, c', rfl, hsl.out.keep (fun x hx => ?_) ?_, ?_⟩
      · have := HLT.out x.block (by rw [hx]; rfl)
        exact sets_other (by omega) _ _ _
      · rw [sets_size]; exact Nat.le_refl _
      · exact Gr.of_grownBy (grown_sets (b := w.heap.size + 1) (w := w) (by omega) _ 0 _ hG.out.grownBy)
end Go.Proofs.YtcdcmohccbhchaaGreatDoor

namespace Go.Proofs.YtcdcmohccbhchaaGreatDoor
open Go.RowKit

theorem laid_pow : (Rows.controlFieldRow.laid.filter fun x => x.1 == "internal/strconv.uint64pow10") = [("internal/strconv.uint64pow10", Lib.tabData .u64 Lib.pow10Tab)] := by kernel_rfl
def alphZ : List Int := b64S.map fun c => (c.toNat : Int)
theorem laid_alph : (Rows.controlFieldRow.laid.filter fun x => x.1 == "bulletin/base64.alphabet") = [("bulletin/base64.alphabet", Lib.tabData .u8 alphZ)] := by kernel_rfl
theorem gAlph : Tryz.prog.globalNamed "bulletin/base64.alphabet" = some 0 := by kernel_rfl
theorem tyPow : (Tryz.prog.globals[2]?).map (·.type) = some 165 := by kernel_rfl
theorem tyAlph : (Tryz.prog.globals[0]?).map (·.type) = some 96 := by kernel_rfl
theorem tabs_of {W : World} (h : laidMetH Tryz.prog Rows.controlFieldRow.laid W) (hsh : W.ShapedOpen Tryz.prog) : Tabs W := by
  have h0 : laidMet Tryz.prog Rows.controlFieldRow.laid W := h
  have h1 := laidMet.filter (fun x => x.1 == "internal/strconv.uint64pow10") h0
  rw [laid_pow] at h1
  have h2 := laidMet.filter (fun x => x.1 == "bulletin/base64.alphabet") h0
  rw [laid_alph] at h2
  refine ⟨env_of hsh, fun i hi => ?_, Lib.tabIs_of_head gPow tyPow Tryz.underlying165 Tryz.underlying143 (by kernel_rfl) (by kernel_rfl) h1⟩
  have ht := Lib.tabIs_of_head (rest := []) gAlph tyAlph Tryz.underlying96 Tryz.underlying5 cellsByte (by kernel_rfl) h2
  have hc := ht.cell gAlph i (by show i < alphZ.length; rw [show alphZ.length = 64 by decide]; exact hi)
  have e : ∀ j : Fin 64, alphZ.getD j.val 0 = ((b64C j.val).toNat : Int) := by decide +kernel
  have ei : alphZ.getD i 0 = ((b64C i).toNat : Int) := e ⟨i, hi⟩
  rw [ei] at hc
  exact hc
end Go.Proofs.YtcdcmohccbhchaaGreatDoor

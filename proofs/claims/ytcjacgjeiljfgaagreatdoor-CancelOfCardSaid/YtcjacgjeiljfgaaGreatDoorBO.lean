/- An article's content as a row of cells, and its parts. Equality of cancellations; what cancel.Of returns. How the statements' arguments lie, read off their readings: byte arrays, cancellations, rows, definitions, slices of these. How a content lies, read off its reading. A command in a block. What cancel.Of returns. -/
import Derived.Test.YtcjacgjeiljfgaaGreatDoorBB
import Derived.Test.YtcjacgjeiljfgaaGreatDoorBH
import Derived.Test.YtcjacgjeiljfgaaGreatDoorCB
import Derived.ProofKit
import Derived.OpenShut
import Derived.ChangeSame
import Derived.Deep.Slices
import Derived.Test.YtcjacgjeiljfgaaGreatDoorBE
import Derived.Test.YtcjacgjeiljfgaaGreatDoorBF
import Derived.Test.YtcjacgjeiljfgaaGreatDoorBG
namespace Go.Proofs.YtcjacgjeiljfgaaGreatDoor
open Go.RowKit

structure Ctt where
  name : ByteArray
  author : Aut
  date : Int
  groups : Value
  subject : ByteArray
  refs : Value
  sup : Id
  control : ByteArray
  dist : ByteArray
  number : Int
  height : Int
  root : Aut
  leaf : Int
  body : ByteArray
def cttC (c : Ctt) : List Value := [.string c.name] ++ (bC c.author ++ ([.int .i64 c.date, c.groups, .string c.subject, c.refs] ++ (bC c.sup ++ ([.string c.control, .string c.dist, .int .i64 c.number] ++ (pubC c.height c.root ++ [.int .i64 c.leaf, .string c.body])))))
def CttGood (c : Ctt) : Prop := (∃ a n k, c.groups = .slice a n k) ∧ (∃ a n k, c.refs = .slice a n k)
theorem cttC_length (c : Ctt) : (cttC c).length = 75 := by simp [cttC, bC_length, pubC_length]
section
variable (c : Ctt)
theorem ctt_author : rowOf (cttC c) 1 16 = bC c.author := by
  unfold cttC; rw [rowOf_app_r _ _ _ _ 1 rfl (by decide), rowOf_app_l _ _ _ (bC_length _)]
theorem ctt_lo (k : Nat) (h : 17 ≤ k) (h2 : k < 21) : (cttC c)[k]? = [Value.int .i64 c.date, c.groups, .string c.subject, c.refs][k - 17]? := by
  unfold cttC; rw [get_app_r _ _ _ 1 rfl (by omega), get_app_r _ _ _ 16 (bC_length _) (by omega), Nat.sub_sub, List.getElem?_append_left (by simp; omega)]
theorem ctt_hi (k : Nat) (h : 53 ≤ k) (h2 : k < 56) : (cttC c)[k]? = [Value.string c.control, .string c.dist, .int .i64 c.number][k - 53]? := by
  unfold cttC; rw [get_app_r _ _ _ 1 rfl (by omega), get_app_r _ _ _ 16 (bC_length _) (by omega), get_app_r _ _ _ 4 rfl (by omega), get_app_r _ _ _ 32 (bC_length _) (by omega), Nat.sub_sub, Nat.sub_sub, Nat.sub_sub, List.getElem?_append_left (by simp; omega)]
theorem ctt_date : (cttC c)[17]? = some (.int .i64 c.date) := ctt_lo c 17 (by decide) (by decide)
theorem ctt_groups : (cttC c)[18]? = some c.groups := ctt_lo c 18 (by decide) (by decide)
theorem ctt_refs : (cttC c)[20]? = some c.refs := ctt_lo c 20 (by decide) (by decide)
theorem ctt_control : (cttC c)[53]? = some (.string c.control) := ctt_hi c 53 (by decide) (by decide)
theorem ctt_whole : rowOf (cttC c) 0 75 = cttC c := rowOf_all _ _ (cttC_length c)
theorem ctt_date' (h : 17 < (cttC c).length) : (cttC c)[17] = .int .i64 c.date := get_of (ctt_date c) h
theorem ctt_groups' (h : 18 < (cttC c).length) : (cttC c)[18] = c.groups := get_of (ctt_groups c) h
theorem ctt_refs' (h : 20 < (cttC c).length) : (cttC c)[20] = c.refs := get_of (ctt_refs c) h
theorem ctt_control' (h : 53 < (cttC c).length) : (cttC c)[53] = .string c.control := get_of (ctt_control c) h
theorem ctt_one (hg : c.groups.oneCell' = true) (hr : c.refs.oneCell' = true) : oneB (cttC c) = true := by
  rw [cttC, oneB_append, oneB_append, oneB_append, oneB_append, oneB_append, oneB_append, oneB_bC, oneB_bC, oneB_pub]; simp only [oneB, List.all_cons, List.all_nil, hg, hr, Bool.and_true]; rfl
theorem ctt_setcontrol (s : ByteArray) : (cttC c).set 53 (.string s) = cttC { c with control := s } := by
  have h1 := bC_length c.author
  have h2 := bC_length c.sup
  unfold cttC
  rw [List.set_append_right _ _ (by simp), List.set_append_right _ _ (by simp; omega), h1, List.set_append_right _ _ (by simp), List.set_append_right _ _ (by simp; omega), h2]
  rfl
end
@[go_sem] theorem aggCtt : aggB Tryz.prog 31 = true := by kernel_rfl
@[go_sem] theorem cellsCtt : Tryz.prog.cellsOf 31 = 75 := by kernel_rfl
attribute [go_sem] ctt_date' ctt_groups' ctt_refs' ctt_control' cttC_length ctt_author ctt_whole
/-- The command that cancels a target. -/
def cmT (t : Id) : Cm := { cm0 1 with target := t }
theorem cmT_err (t : Id) : cmErr (cmT t) = if t = zId then 1 else 0 := by
  have hf : foreign (cmT t) = false := by unfold foreign strip; simp [cmT, cm0]
  have hk : kindName (cmT t).kind ≠ [] := (by decide : kindName 1 ≠ [])
  unfold cmErr
  rw [if_neg hk, hf]
  simp [cmT, cm0]
end Go.Proofs.YtcjacgjeiljfgaaGreatDoor

namespace Go.Proofs.YtcjacgjeiljfgaaGreatDoor
open Go.RowKit

/-! ### equality of cancellations -/
def cancEq (a b : Canc) : Bool := a.id == b.id && (a.author == b.author && (a.date == b.date && a.target == b.target))
theorem cancEq_iff (a b : Canc) : cancEq a b = true ↔ a = b := by
  unfold cancEq
  cases a; cases b
  simp
theorem part_date (y : Canc) (w : World) : (part 3 (cancC y).toArray 48).run Tryz.prog w = .ok (.int .i64 y.date) w := by
  have h := canc_date y
  simp [part, isAgg, run_underlying Tryz.underlying3, h]
theorem part_id (y : Canc) (w : World) : (part 23 (cancC y).toArray 0).run Tryz.prog w = .ok (.agg (bC y.id).toArray) w := by
  rw [partRow w aggId, cellsId, canc_id]
theorem part_author (y : Canc) (w : World) : (part 25 (cancC y).toArray 32).run Tryz.prog w = .ok (.agg (bC y.author).toArray) w := by
  rw [partRow w aggAut, cellsAut, canc_author]
theorem part_target (y : Canc) (w : World) : (part 23 (cancC y).toArray 49).run Tryz.prog w = .ok (.agg (bC y.target).toArray) w := by
  rw [partRow w aggId, cellsId, canc_target]
theorem eq9Id (a b : Id) (w : World) : Sem.run Tryz.prog (Op.equalIn 9999 23 (.agg (bC a).toArray) (.agg (bC b).toArray)) w = .ok (a == b) w := run_equalIn_bytes w 9997 Tryz.underlying23 Tryz.underlying5 cellsByte a b
theorem eq9Aut (a b : Aut) (w : World) : Sem.run Tryz.prog (Op.equalIn 9999 25 (.agg (bC a).toArray) (.agg (bC b).toArray)) w = .ok (a == b) w := run_equalIn_bytes w 9997 Tryz.underlying25 Tryz.underlying5 cellsByte a b
theorem eq9Int (a b : Int) (w : World) : Sem.run Tryz.prog (Op.equalIn 9999 3 (.int .i64 a) (.int .i64 b)) w = .ok (a == b) w := run_equalIn_int w 9998 _ _ _ a b Tryz.underlying3
theorem eqF_canc (x y : Canc) (w : World) : (Op.eqFields 9999 (cancC x).toArray (cancC y).toArray (Tryz.prog.fieldsOf 40).toList).run Tryz.prog w = .ok (x.id == y.id && (x.author == y.author && (x.date == y.date && (x.target == y.target && true)))) w := by
  simp only [Program.fieldsOf, Tryz.underlying40]
  refine eqStep (by decide) (part_id x w) (part_id y w) (eq9Id _ _ w) ?_
  refine eqStep (by decide) (part_author x w) (part_author y w) (eq9Aut _ _ w) ?_
  refine eqStep (by decide) (part_date x w) (part_date y w) (eq9Int _ _ w) ?_
  exact eqStep (by decide) (part_target x w) (part_target y w) (eq9Id _ _ w) rfl
theorem eqS_canc (x y : Canc) (w : World) : Sem.run Tryz.prog (Op.equalIn 10000 40 (.agg (cancC x).toArray) (.agg (cancC y).toArray)) w = (Op.eqFields 9999 (cancC x).toArray (cancC y).toArray (Tryz.prog.fieldsOf 40).toList).run Tryz.prog w := run_equalIn_struct w 9999 40 _ _ (by kernel_rfl) (by kernel_rfl)
theorem cancEq_and (x y : Canc) : (x.id == y.id && (x.author == y.author && (x.date == y.date && (x.target == y.target && true)))) = cancEq x y := by
  unfold cancEq; rw [Bool.and_true]
@[go_sem ↓ high] theorem eqCanc (x y : Canc) (w : World) : Sem.run Tryz.prog (Op.equalIn 10000 40 (.agg (cancC x).toArray) (.agg (cancC y).toArray)) w = .ok (cancEq x y) w :=
  (eqS_canc x y w).trans ((eqF_canc x y w).trans (by rw [cancEq_and]))
@[go_sem] theorem guardCanc : Tryz.prog.eqGuardType Tryz.prog.depth 40 = false := by kernel_rfl
def canc0 : Canc := ⟨zId, zAut, 0, zId⟩
@[go_sem ↓ high] theorem zeroCancV (w : World) : (zeroValue 40).run Tryz.prog w = .ok (.agg (cancC canc0).toArray) w := by kernel_rfl
/-- Whether a control text is a command that cancels. -/
def ofB (s : Str) : Bool := decide ((parseS s).2.2 = 0) && decide ((parseS s).1.kind = 1)
def ofV (id : Id) (c : Ctt) : Canc := if ofB (bl c.control) = true then ⟨id, c.author, c.date, (parseS (bl c.control)).1.target⟩ else canc0
theorem cmT_print {t : Id} (h : t ≠ zId) : prS (cmT t) = printS (cmT t) ∧ parseS (printS (cmT t)) = (cmT t, 0, 0) := by
  have he : cmErr (cmT t) = 0 := by rw [cmT_err, if_neg h]
  exact ⟨by unfold prS; rw [if_pos he], rt_all he⟩
theorem ofV_whole (id : Id) (c : Ctt) {t : Id} (h : t ≠ zId) : ofB (bl (bs (prS (cmT t)))) = true ∧ ofV id { c with control := bs (prS (cmT t)) } = ⟨id, c.author, c.date, t⟩ := by
  obtain ⟨h1, h2⟩ := cmT_print h
  have hb : ofB (bl (bs (prS (cmT t)))) = true := by rw [bl_bs, h1]; unfold ofB; rw [h2]; rfl
  refine ⟨hb, ?_⟩
  unfold ofV
  rw [if_pos hb]
  show Canc.mk _ _ _ (parseS (bl (bs (prS (cmT t))))).1.target = _
  rw [bl_bs, h1, h2]; rfl
end Go.Proofs.YtcjacgjeiljfgaaGreatDoor

namespace Go.Proofs.YtcjacgjeiljfgaaGreatDoor
open Go.ChangeShapes Go.WideShapes Go.ChangeAt Go.RowKit

theorem drop_row (cs : List Value) (k n : Nat) : cs.drop k = rowOf cs k n ++ cs.drop (k + n) := by
  unfold rowOf; rw [← List.drop_drop, List.take_append_drop]
theorem bytes_list : ∀ cs : List Value, (∀ u ∈ cs, ∃ b : UInt8, u = .int .u8 (b.toNat : Int)) → ∃ l : List UInt8, cs = l.map fun b => .int .u8 (b.toNat : Int)
  | [], _ => ⟨[], rfl⟩
  | u :: cs, h => by
    obtain ⟨b, rfl⟩ := h u (by simp)
    obtain ⟨l, rfl⟩ := bytes_list cs (fun x hx => h x (by simp [hx]))
    exact ⟨b :: l, rfl⟩
theorem list_of {α : Type} {p : Nat → α → Prop} : ∀ n : Nat, (∀ i, i < n → ∃ a, p i a) → ∃ l : List α, l.length = n ∧ ∀ i (h : i < l.length), p i l[i]
  | 0, _ => ⟨[], rfl, fun i h => by simp at h⟩
  | n + 1, h => by
    obtain ⟨l, hl, hp⟩ := list_of n (fun i hi => h i (by omega))
    obtain ⟨a, ha⟩ := h n (by omega)
    refine ⟨l ++ [a], by simp [hl], fun i hi => ?_⟩
    simp only [List.length_append, List.length_singleton] at hi
    by_cases e : i < l.length
    · rw [List.getElem_append_left e]; exact hp i e
    · obtain rfl : i = l.length := by omega
      rw [List.getElem_concat_length rfl, hl]; exact ha

section
variable {H : Type} {enc : TypeId × Value → H} {W : World} {base : Nat} {sp : Nat → Bool} {held : Bool}

theorem vec_open {n : Nat} {t : TypeId} (hu : Tryz.prog.underlying t = some (.array n 5)) (hC : Tryz.prog.cellsOf t = n) {fuel : Nat} {cs : List Value} {x : DataW H × List MemPlace}
    (hf : DataW.trod enc Tryz.prog W base sp held fuel t cs = some x) : ∃ v : Vector UInt8 n, cs = bC v := by
  obtain ⟨xs, m, _, _, hlen, hxl, hi⟩ := DataW.trod_array hu hf
  rw [hC] at hlen
  obtain ⟨l, rfl⟩ := bytes_list cs (fun u hu' => by
    obtain ⟨i, hil, rfl⟩ := List.getElem_of_mem hu'
    have h := hi i (by omega)
    rw [cellsByte, Nat.mul_one, List.drop_eq_getElem_cons hil, List.take_succ_cons, List.take_zero, List.getElem?_eq_getElem (by omega)] at h
    obtain ⟨z, hz, _, hw⟩ := DataW.trod_int Tryz.underlying5 h
    have hb := bounds_u8 hw
    refine ⟨UInt8.ofNat z.toNat, ?_⟩
    simp only [List.cons.injEq, and_true] at hz
    have e : ((UInt8.ofNat z.toNat).toNat : Int) = z := by simp; omega
    rw [hz, e])
  rw [List.length_map] at hlen
  exact ⟨⟨l.toArray, by simpa using hlen⟩, by simp [bC]⟩

theorem field_open {t : TypeId} {fs : Array Field} (ht : Tryz.prog.underlying t = some (.struct fs)) {fuel : Nat} {cs : List Value} {x : DataW H × List MemPlace}
    (hf : DataW.trod enc Tryz.prog W base sp held fuel t cs = some x) (i : Nat) (f : Field) (hi : fs[i]? = some f) (ty : TypeId) (off sz : Nat) (h1 : f.type = ty) (h2 : f.offset = off) (h3 : Tryz.prog.cellsOf ty = sz) :
    ∃ n y, DataW.trod enc Tryz.prog W base sp held n ty (rowOf cs off sz) = some y := by
  obtain ⟨xs, n, _, _, _, hxl, hg⟩ := DataW.trod_struct ht hf
  have h := hg i f hi
  have hlt : i < xs.length := by rw [hxl]; exact (Array.getElem?_eq_some_iff.1 hi).1
  rw [h1, h2, h3, List.getElem?_eq_getElem hlt] at h
  exact ⟨n, _, h⟩
theorem struct_len {t : TypeId} {fs : Array Field} (ht : Tryz.prog.underlying t = some (.struct fs)) {fuel : Nat} {cs : List Value} {x : DataW H × List MemPlace}
    (hf : DataW.trod enc Tryz.prog W base sp held fuel t cs = some x) : cs.length = Tryz.prog.cellsOf t := by
  obtain ⟨xs, n, _, _, hl, _, _⟩ := DataW.trod_struct ht hf
  exact hl
theorem cellsInt : Tryz.prog.cellsOf 3 = 1 := by kernel_rfl
theorem cellsStr : Tryz.prog.cellsOf 9 = 1 := by kernel_rfl
theorem cellsBool : Tryz.prog.cellsOf 4 = 1 := by kernel_rfl
theorem cellsSlStr : Tryz.prog.cellsOf 26 = 1 := by kernel_rfl
theorem cellsSlId : Tryz.prog.cellsOf 27 = 1 := by kernel_rfl
theorem cellsSlAut : Tryz.prog.cellsOf 36 = 1 := by kernel_rfl

theorem spot_none {a : Addr} {v : Value} (h : W.cell? a = some v) : a.spot = none := World.cell?_spot h

/-- A slice opened: its elements one by one. -/
theorem sl_open {t e : TypeId} {size : Nat} (hs : 0 < size) (hC : Tryz.prog.cellsOf e = size) {α : Type} (F : α → List Value) (Good : α → Prop)
    (hel : ∀ n cs' (y : DataW H × List MemPlace), DataW.trod enc Tryz.prog W base sp held n e cs' = some y → ∃ a : α, cs' = F a ∧ Good a)
    (ht : Tryz.prog.underlying t = some (.slice e)) {fuel : Nat} {v : Value} {x : DataW H × List MemPlace} (hf : DataW.trod enc Tryz.prog W base sp held fuel t [v] = some x) :
    ∃ l : List α, SlAt W v size (l.map F) ∧ (∀ a ∈ l, Good a) ∧ l.length ≤ 9223372036854775807 := by
  rcases Go.Deep.open_slice ht hf with ⟨hcs, _⟩ | ⟨a, len, cap, m, n, D, Pl, hcs, _, hl, hm, hmm, _, hi⟩
  · simp only [List.cons.injEq, and_true] at hcs
    subst hcs
    exact ⟨[], ⟨none, 0, rfl, Nat.le_refl _, fun j hj => by simp at hj⟩, by simp, by simp⟩
  · simp only [List.cons.injEq, and_true] at hcs
    subst hcs
    have hlm : len ≤ m := by rw [hmm]; split <;> omega
    unfold maxLen at hm
    rw [hC] at hi
    obtain ⟨l, hll, hp⟩ := list_of (p := fun i (z : α) => W.cells? base (a.add (i * size)) size = some (F z) ∧ Good z) len (fun i hil => by
      obtain ⟨cs', h1, h2⟩ := hi i (by omega)
      obtain ⟨z, hz, hgz⟩ := hel n cs' _ h2
      exact ⟨z, by rw [h1, hz], hgz⟩)
    refine ⟨l, ⟨some a, cap, by rw [List.length_map, hll], by rw [List.length_map, hll]; exact hl, fun j hj => ?_⟩, fun z hz => ?_, by omega⟩
    · rw [List.length_map] at hj
      obtain ⟨h1, _⟩ := hp j hj
      obtain ⟨_, hlen, hcell⟩ := World.cells?_some h1
      obtain ⟨blk, off, spot⟩ := a
      have hsome : ∀ i, i < size → ∃ u, W.cell? (((⟨blk, off, spot⟩ : Addr).add (j * size)).add i) = some u := fun i hi' => ⟨_, (hcell i hi').trans (List.getElem?_eq_getElem (by omega))⟩
      have hspot : spot = none := by
        obtain ⟨k1, _⟩ := hp 0 (by omega)
        obtain ⟨_, hl0, hc0⟩ := World.cells?_some k1
        have h5 := spot_none ((hc0 0 hs).trans (List.getElem?_eq_getElem (by omega)))
        rw [Nat.zero_mul] at h5
        exact h5
      subst hspot
      rw [Addr.add_lit] at hcell
      have hsome' : ∀ i, i < size → ∃ u, W.cell? ((⟨blk, off + j * size, none⟩ : Addr).add i) = some u := fun i hi' => by have h6 := hsome i hi'; rw [Addr.add_lit] at h6; exact h6
      refine ⟨blk, off, rfl, ?_, ?_, ?_⟩
      · obtain ⟨u, hu⟩ := hsome' 0 hs
        have h7 := World.block_lt_of_cell? W _ hu
        rwa [add_block] at h7
      · rw [hasRow_iff]; intro i hi'; obtain ⟨u, hu⟩ := hsome' i hi'; rw [hu]; rfl
      · rw [List.getElem_map]
        apply List.ext_getElem?
        intro i
        rw [rowAt, List.getElem?_map]
        by_cases hi' : i < size
        · rw [List.getElem?_range hi', Option.map_some, hcell i hi', List.getElem?_eq_getElem (by omega)]; rfl
        · rw [List.getElem?_eq_none (by simp; omega), List.getElem?_eq_none (by omega)]; rfl
    · obtain ⟨i, hil, rfl⟩ := List.getElem_of_mem hz
      exact (hp i hil).2

theorem strs_open {fuel : Nat} {v : Value} {x : DataW H × List MemPlace} (hf : DataW.trod enc Tryz.prog W base sp held fuel 26 [v] = some x) : ∃ gs, StrsAt W v gs := by
  obtain ⟨l, ⟨a, cap, hv, hc, hj⟩, _, _⟩ := sl_open (by decide) cellsStr (fun s : ByteArray => [Value.string s]) (fun _ => True) (fun n cs' y h => by
    obtain ⟨s, hs, _⟩ := DataW.trod_string Tryz.underlying9 h
    exact ⟨s, hs, trivial⟩) Tryz.underlying26 hf
  refine ⟨l, a, cap, by rw [hv, List.length_map], fun j h => ?_⟩
  obtain ⟨b, k, ha, hb, h1, h2⟩ := hj j (by simpa using h)
  refine ⟨b, k, ha, hb, ?_⟩
  obtain ⟨u, hu⟩ := Option.isSome_iff_exists.1 (hasRow_iff.1 h1 0 (by decide))
  rw [List.getElem_map] at h2
  simp only [Nat.mul_one] at hu h2
  rw [Addr.add_lit, Nat.add_zero] at hu
  simp only [rowAt, List.range_one, List.map_cons, List.map_nil, Addr.add_lit, Nat.add_zero, hu, Option.getD_some, List.cons.injEq, and_true] at h2
  rw [hu, h2]
theorem auts_open {fuel : Nat} {v : Value} {x : DataW H × List MemPlace} (hf : DataW.trod enc Tryz.prog W base sp held fuel 36 [v] = some x) : ∃ l, AutsAt W v l ∧ l.length ≤ 9223372036854775807 := by
  obtain ⟨l, h1, _, h3⟩ := sl_open (by decide) cellsAut (fun s : Aut => bC s) (fun _ => True) (fun n cs' y h => by
    obtain ⟨s, hs⟩ := vec_open Tryz.underlying25 cellsAut h
    exact ⟨s, hs, trivial⟩) Tryz.underlying36 hf
  exact ⟨l, h1, h3⟩
def Dated (d : Int) : Prop := -9223372036854775808 ≤ d ∧ d ≤ 9223372036854775807
theorem canc_open {fuel : Nat} {cs : List Value} {x : DataW H × List MemPlace} (hf : DataW.trod enc Tryz.prog W base sp held fuel 40 cs = some x) : ∃ y : Canc, cs = cancC y ∧ Dated y.date := by
  have hl := (struct_len Tryz.underlying40 hf).trans cellsCanc
  obtain ⟨_, _, h0⟩ := field_open Tryz.underlying40 hf 0 _ rfl 23 0 32 rfl rfl cellsId
  obtain ⟨_, _, h1⟩ := field_open Tryz.underlying40 hf 1 _ rfl 25 32 16 rfl rfl cellsAut
  obtain ⟨_, _, h2⟩ := field_open Tryz.underlying40 hf 2 _ rfl 3 48 1 rfl rfl cellsInt
  obtain ⟨_, _, h3⟩ := field_open Tryz.underlying40 hf 3 _ rfl 23 49 32 rfl rfl cellsId
  obtain ⟨i, e0⟩ := vec_open Tryz.underlying23 cellsId h0
  obtain ⟨a, e1⟩ := vec_open Tryz.underlying25 cellsAut h1
  obtain ⟨d, e2, _, hw⟩ := DataW.trod_int Tryz.underlying3 h2
  obtain ⟨g, e3⟩ := vec_open Tryz.underlying23 cellsId h3
  refine ⟨⟨i, a, d, g⟩, ?_, bounds_i64 hw⟩
  have s0 := drop_row cs 0 32
  have s1 := drop_row cs 32 16
  have s2 := drop_row cs 48 1
  have s3 := drop_row cs 49 32
  rw [List.drop_of_length_le (i := 49 + 32) (by omega)] at s3
  rw [e0, show 0 + 32 = 32 from rfl, s1, e1, show 32 + 16 = 48 from rfl, s2, e2, show 48 + 1 = 49 from rfl, s3, e3] at s0
  simpa [cancC] using s0
def RwGood (W : World) (x : Rw) : Prop := (∃ gs, StrsAt W x.groups gs) ∧ oneB (rwC x) = true ∧ Dated x.date
theorem rw_one (x : Rw) (h1 : x.groups.oneCell' = true) (h2 : x.refs.oneCell' = true) : oneB (rwC x) = true := by
  simp only [rwC, oneB_append, oneB_cons, oneB_bC, h1, h2, Bool.true_and, Bool.and_true]; rfl
theorem rw_open {fuel : Nat} {cs : List Value} {x : DataW H × List MemPlace} (hf : DataW.trod enc Tryz.prog W base sp held fuel 52 cs = some x) : ∃ y : Rw, cs = rwC y ∧ RwGood W y := by
  have hl := (struct_len Tryz.underlying52 hf).trans cellsRw
  obtain ⟨_, _, h0⟩ := field_open Tryz.underlying52 hf 0 _ rfl 23 0 32 rfl rfl cellsId
  obtain ⟨_, _, h1⟩ := field_open Tryz.underlying52 hf 1 _ rfl 25 32 16 rfl rfl cellsAut
  obtain ⟨_, _, h2⟩ := field_open Tryz.underlying52 hf 2 _ rfl 3 48 1 rfl rfl cellsInt
  obtain ⟨_, _, h3⟩ := field_open Tryz.underlying52 hf 3 _ rfl 26 49 1 rfl rfl cellsSlStr
  obtain ⟨_, _, h4⟩ := field_open Tryz.underlying52 hf 4 _ rfl 27 50 1 rfl rfl cellsSlId
  obtain ⟨_, _, h5⟩ := field_open Tryz.underlying52 hf 5 _ rfl 23 51 32 rfl rfl cellsId
  obtain ⟨i, e0⟩ := vec_open Tryz.underlying23 cellsId h0
  obtain ⟨a, e1⟩ := vec_open Tryz.underlying25 cellsAut h1
  obtain ⟨d, e2, _, hw⟩ := DataW.trod_int Tryz.underlying3 h2
  obtain ⟨ga, gl, gc, e3⟩ : ∃ ga gl gc, rowOf cs 49 1 = [.slice ga gl gc] := by
    rcases Go.Deep.open_slice Tryz.underlying26 h3 with ⟨hcs, _⟩ | ⟨_, _, _, _, _, _, _, hcs, _⟩
    · exact ⟨_, _, _, hcs⟩
    · exact ⟨_, _, _, hcs⟩
  obtain ⟨ra, rl, rc, e4⟩ : ∃ ga gl gc, rowOf cs 50 1 = [.slice ga gl gc] := by
    rcases Go.Deep.open_slice Tryz.underlying27 h4 with ⟨hcs, _⟩ | ⟨_, _, _, _, _, _, _, hcs, _⟩
    · exact ⟨_, _, _, hcs⟩
    · exact ⟨_, _, _, hcs⟩
  obtain ⟨g, e5⟩ := vec_open Tryz.underlying23 cellsId h5
  rw [e3] at h3
  obtain ⟨gs, hgs⟩ := strs_open h3
  refine ⟨⟨i, a, d, .slice ga gl gc, .slice ra rl rc, g⟩, ?_, ⟨gs, hgs⟩, rw_one _ rfl rfl, bounds_i64 hw⟩
  have s0 := drop_row cs 0 32
  have s1 := drop_row cs 32 16
  have s2 := drop_row cs 48 1
  have s3 := drop_row cs 49 1
  have s4 := drop_row cs 50 1
  have s5 := drop_row cs 51 32
  rw [List.drop_of_length_le (i := 51 + 32) (by omega)] at s5
  rw [e0, show 0 + 32 = 32 from rfl, s1, e1, show 32 + 16 = 48 from rfl, s2, e2, show 48 + 1 = 49 from rfl, s3, e3, show 49 + 1 = 50 from rfl, s4, e4, show 50 + 1 = 51 from rfl, s5, e5] at s0
  simpa [rwC] using s0
theorem dfn_open {fuel : Nat} {cs : List Value} {x : DataW H × List MemPlace} (hf : DataW.trod enc Tryz.prog W base sp held fuel 49 cs = some x) : ∃ e : Dfn × List Aut, cs = dfnC e.1 ∧ (AutsAt W e.1.mods e.2 ∧ e.2.length ≤ 9223372036854775807) := by
  have hl := (struct_len Tryz.underlying49 hf).trans cellsDfn
  obtain ⟨_, _, h0⟩ := field_open Tryz.underlying49 hf 0 _ rfl 23 0 32 rfl rfl cellsId
  obtain ⟨_, _, h1⟩ := field_open Tryz.underlying49 hf 1 _ rfl 25 32 16 rfl rfl cellsAut
  obtain ⟨_, _, h2⟩ := field_open Tryz.underlying49 hf 2 _ rfl 9 48 1 rfl rfl cellsStr
  obtain ⟨_, _, h3⟩ := field_open Tryz.underlying49 hf 3 _ rfl 3 49 1 rfl rfl cellsInt
  obtain ⟨_, _, h4⟩ := field_open Tryz.underlying49 hf 4 _ rfl 4 50 1 rfl rfl cellsBool
  obtain ⟨_, _, h5⟩ := field_open Tryz.underlying49 hf 5 _ rfl 4 51 1 rfl rfl cellsBool
  obtain ⟨_, _, h6⟩ := field_open Tryz.underlying49 hf 6 _ rfl 36 52 1 rfl rfl cellsSlAut
  obtain ⟨_, _, h7⟩ := field_open Tryz.underlying49 hf 7 _ rfl 9 53 1 rfl rfl cellsStr
  obtain ⟨i, e0⟩ := vec_open Tryz.underlying23 cellsId h0
  obtain ⟨a, e1⟩ := vec_open Tryz.underlying25 cellsAut h1
  obtain ⟨g, e2, _⟩ := DataW.trod_string Tryz.underlying9 h2
  obtain ⟨d, e3, _⟩ := DataW.trod_int Tryz.underlying3 h3
  obtain ⟨b1, e4, _⟩ := DataW.trod_bool Tryz.underlying4 h4
  obtain ⟨b2, e5, _⟩ := DataW.trod_bool Tryz.underlying4 h5
  obtain ⟨ga, gl, gc, e6⟩ : ∃ ga gl gc, rowOf cs 52 1 = [.slice ga gl gc] := by
    rcases Go.Deep.open_slice Tryz.underlying36 h6 with ⟨hcs, _⟩ | ⟨_, _, _, _, _, _, _, hcs, _⟩
    · exact ⟨_, _, _, hcs⟩
    · exact ⟨_, _, _, hcs⟩
  obtain ⟨tx, e7, _⟩ := DataW.trod_string Tryz.underlying9 h7
  rw [e6] at h6
  obtain ⟨l, hla⟩ := auts_open h6
  refine ⟨(⟨i, a, g, d, b1, b2, .slice ga gl gc, tx⟩, l), ?_, hla⟩
  have s0 := drop_row cs 0 32
  have s1 := drop_row cs 32 16
  have s2 := drop_row cs 48 1
  have s3 := drop_row cs 49 1
  have s4 := drop_row cs 50 1
  have s5 := drop_row cs 51 1
  have s6 := drop_row cs 52 1
  have s7 := drop_row cs 53 1
  rw [List.drop_of_length_le (i := 53 + 1) (by omega)] at s7
  rw [e0, show 0 + 32 = 32 from rfl, s1, e1, show 32 + 16 = 48 from rfl, s2, e2, show 48 + 1 = 49 from rfl, s3, e3, show 49 + 1 = 50 from rfl, s4, e4, show 50 + 1 = 51 from rfl, s5, e5, show 51 + 1 = 52 from rfl, s6, e6, show 52 + 1 = 53 from rfl, s7, e7] at s0
  simpa [dfnC] using s0
theorem defs_open2 {fuel : Nat} {v : Value} {x : DataW H × List MemPlace} (hf : DataW.trod enc Tryz.prog W base sp held fuel 50 [v] = some x) : ∃ ds : List (Dfn × List Aut), DefsAt W v ds ∧ ds.length ≤ 9223372036854775807 ∧ ∀ e ∈ ds, e.2.length ≤ 9223372036854775807 := by
  obtain ⟨l, h1, h2, h3⟩ := sl_open (by decide) cellsDfn (fun e : Dfn × List Aut => dfnC e.1) (fun e => AutsAt W e.1.mods e.2 ∧ e.2.length ≤ 9223372036854775807) (fun n cs' y h => dfn_open h) Tryz.underlying50 hf
  exact ⟨l, ⟨h1, fun e he => (h2 e he).1⟩, h3, fun e he => (h2 e he).2⟩
theorem defs_open {fuel : Nat} {v : Value} {x : DataW H × List MemPlace} (hf : DataW.trod enc Tryz.prog W base sp held fuel 50 [v] = some x) : ∃ ds, DefsAt W v ds ∧ ds.length ≤ 9223372036854775807 := by
  obtain ⟨l, h1, h2, _⟩ := defs_open2 hf
  exact ⟨l, h1, h2⟩
theorem cancs_open {fuel : Nat} {v : Value} {x : DataW H × List MemPlace} (hf : DataW.trod enc Tryz.prog W base sp held fuel 53 [v] = some x) : ∃ l, CancsAt W v l ∧ (∀ y ∈ l, Dated y.date) ∧ l.length ≤ 9223372036854775807 :=
  sl_open (by decide) cellsCanc cancC (fun y => Dated y.date) (fun n cs' y h => canc_open h) Tryz.underlying53 hf
theorem ids_open {fuel : Nat} {v : Value} {x : DataW H × List MemPlace} (hf : DataW.trod enc Tryz.prog W base sp held fuel 27 [v] = some x) : ∃ l : List Id, SlAt W v 32 (l.map bC) ∧ l.length ≤ 9223372036854775807 := by
  obtain ⟨l, h1, _, h3⟩ := sl_open (by decide) cellsId (fun s : Id => bC s) (fun _ => True) (fun n cs' y h => by
    obtain ⟨s, hs⟩ := vec_open Tryz.underlying23 cellsId h
    exact ⟨s, hs, trivial⟩) Tryz.underlying27 hf
  exact ⟨l, h1, h3⟩
end
end Go.Proofs.YtcjacgjeiljfgaaGreatDoor

namespace Go.Proofs.YtcjacgjeiljfgaaGreatDoor
open Go.ChangeShapes Go.WideShapes Go.ChangeAt Go.RowKit

section
variable {H : Type} {enc : TypeId × Value → H} {W : World} {base : Nat} {sp : Nat → Bool} {held : Bool}
theorem pub_open {fuel : Nat} {cs : List Value} {x : DataW H × List MemPlace} (hf : DataW.trod enc Tryz.prog W base sp held fuel 29 cs = some x) : ∃ h r, cs = pubC h r := by
  have hl := (struct_len Tryz.underlying29 hf).trans cellsPub
  obtain ⟨_, _, h0⟩ := field_open Tryz.underlying29 hf 0 _ rfl 3 0 1 rfl rfl cellsInt
  obtain ⟨_, _, h1⟩ := field_open Tryz.underlying29 hf 1 _ rfl 24 1 16 rfl rfl cellsA16
  obtain ⟨ht, e0, _⟩ := DataW.trod_int Tryz.underlying3 h0
  obtain ⟨rt, e1⟩ := vec_open Tryz.underlying24 cellsA16 h1
  refine ⟨ht, rt, ?_⟩
  have s0 := drop_row cs 0 1
  have s1 := drop_row cs 1 16
  rw [List.drop_of_length_le (i := 1 + 16) (by omega)] at s1
  rw [e0, show 0 + 1 = 1 from rfl, s1, e1] at s0
  simpa [pubC] using s0
theorem ctt_open {fuel : Nat} {cs : List Value} {x : DataW H × List MemPlace} (hf : DataW.trod enc Tryz.prog W base sp held fuel 31 cs = some x) : ∃ c : Ctt, cs = cttC c ∧ CttGood c := by
  have hl := (struct_len Tryz.underlying31 hf).trans cellsCtt
  obtain ⟨_, _, h0⟩ := field_open Tryz.underlying31 hf 0 _ rfl 9 0 1 rfl rfl cellsStr
  obtain ⟨_, _, h1⟩ := field_open Tryz.underlying31 hf 1 _ rfl 25 1 16 rfl rfl cellsAut
  obtain ⟨_, _, h2⟩ := field_open Tryz.underlying31 hf 2 _ rfl 3 17 1 rfl rfl cellsInt
  obtain ⟨_, _, h3⟩ := field_open Tryz.underlying31 hf 3 _ rfl 26 18 1 rfl rfl cellsSlStr
  obtain ⟨_, _, h4⟩ := field_open Tryz.underlying31 hf 4 _ rfl 9 19 1 rfl rfl cellsStr
  obtain ⟨_, _, h5⟩ := field_open Tryz.underlying31 hf 5 _ rfl 27 20 1 rfl rfl cellsSlId
  obtain ⟨_, _, h6⟩ := field_open Tryz.underlying31 hf 6 _ rfl 23 21 32 rfl rfl cellsId
  obtain ⟨_, _, h7⟩ := field_open Tryz.underlying31 hf 7 _ rfl 9 53 1 rfl rfl cellsStr
  obtain ⟨_, _, h8⟩ := field_open Tryz.underlying31 hf 8 _ rfl 9 54 1 rfl rfl cellsStr
  obtain ⟨_, _, h9⟩ := field_open Tryz.underlying31 hf 9 _ rfl 3 55 1 rfl rfl cellsInt
  obtain ⟨_, _, h10⟩ := field_open Tryz.underlying31 hf 10 _ rfl 29 56 17 rfl rfl cellsPub
  obtain ⟨_, _, h11⟩ := field_open Tryz.underlying31 hf 11 _ rfl 3 73 1 rfl rfl cellsInt
  obtain ⟨_, _, h12⟩ := field_open Tryz.underlying31 hf 12 _ rfl 9 74 1 rfl rfl cellsStr
  obtain ⟨x0, e0, _⟩ := DataW.trod_string Tryz.underlying9 h0
  obtain ⟨x1, e1⟩ := vec_open Tryz.underlying25 cellsAut h1
  obtain ⟨x2, e2, _⟩ := DataW.trod_int Tryz.underlying3 h2
  obtain ⟨a3, l3, c3, e3⟩ : ∃ ga gl gc, rowOf cs 18 1 = [.slice ga gl gc] := by
    rcases Go.Deep.open_slice Tryz.underlying26 h3 with ⟨hcs, _⟩ | ⟨_, _, _, _, _, _, _, hcs, _⟩
    · exact ⟨_, _, _, hcs⟩
    · exact ⟨_, _, _, hcs⟩
  obtain ⟨x4, e4, _⟩ := DataW.trod_string Tryz.underlying9 h4
  obtain ⟨a5, l5, c5, e5⟩ : ∃ ga gl gc, rowOf cs 20 1 = [.slice ga gl gc] := by
    rcases Go.Deep.open_slice Tryz.underlying27 h5 with ⟨hcs, _⟩ | ⟨_, _, _, _, _, _, _, hcs, _⟩
    · exact ⟨_, _, _, hcs⟩
    · exact ⟨_, _, _, hcs⟩
  obtain ⟨x6, e6⟩ := vec_open Tryz.underlying23 cellsId h6
  obtain ⟨x7, e7, _⟩ := DataW.trod_string Tryz.underlying9 h7
  obtain ⟨x8, e8, _⟩ := DataW.trod_string Tryz.underlying9 h8
  obtain ⟨x9, e9, _⟩ := DataW.trod_int Tryz.underlying3 h9
  obtain ⟨x10, y10, e10⟩ := pub_open h10
  obtain ⟨x11, e11, _⟩ := DataW.trod_int Tryz.underlying3 h11
  obtain ⟨x12, e12, _⟩ := DataW.trod_string Tryz.underlying9 h12
  refine ⟨⟨x0, x1, x2, .slice a3 l3 c3, x4, .slice a5 l5 c5, x6, x7, x8, x9, x10, y10, x11, x12⟩, ?_, ⟨_, _, _, rfl⟩, ⟨_, _, _, rfl⟩⟩
  have s0 := drop_row cs 0 1
  have s1 := drop_row cs 1 16
  have s2 := drop_row cs 17 1
  have s3 := drop_row cs 18 1
  have s4 := drop_row cs 19 1
  have s5 := drop_row cs 20 1
  have s6 := drop_row cs 21 32
  have s7 := drop_row cs 53 1
  have s8 := drop_row cs 54 1
  have s9 := drop_row cs 55 1
  have s10 := drop_row cs 56 17
  have s11 := drop_row cs 73 1
  have s12 := drop_row cs 74 1
  rw [List.drop_of_length_le (i := 74 + 1) (by omega)] at s12
  rw [e0, show 0 + 1 = 1 from rfl, s1, e1, show 1 + 16 = 17 from rfl, s2, e2, show 17 + 1 = 18 from rfl, s3, e3, show 18 + 1 = 19 from rfl, s4, e4, show 19 + 1 = 20 from rfl, s5, e5, show 20 + 1 = 21 from rfl, s6, e6, show 21 + 32 = 53 from rfl, s7, e7, show 53 + 1 = 54 from rfl, s8, e8, show 54 + 1 = 55 from rfl, s9, e9, show 55 + 1 = 56 from rfl, s10, e10, show 56 + 17 = 73 from rfl, s11, e11, show 73 + 1 = 74 from rfl, s12, e12] at s0
  simpa [cttC, pubC] using s0
end
end Go.Proofs.YtcjacgjeiljfgaaGreatDoor

namespace Go.Proofs.YtcjacgjeiljfgaaGreatDoor
open Go.RowKit

theorem env_lt {w : World} (h : Env w) : 1 < w.heap.size := by obtain ⟨m, hm⟩ := h; exact World.block_lt_of_cell? w _ hm
/-- A command in a block. -/
def CmB (W : World) (k : Nat) (t : TypeId) (a : Cm) (v : Value) : Prop := W.heap[k]? = some (.cells (cmC a v).toArray t (0, 0))
theorem CmB.gr {W W' : World} {k : Nat} {t : TypeId} {a : Cm} {v : Value} (h : CmB W k t a v) (hg : Gr W W') : CmB W' k t a v :=
  (hg.block (Array.getElem?_eq_some_iff.1 h).1).trans h
theorem CmB.rows {W : World} {k : Nat} {t : TypeId} {a : Cm} {v : Value} (h : CmB W k t a v) : hasRow W ⟨k, 0, none⟩ 56 = true ∧ rowAt W ⟨k, 0, none⟩ 56 = cmC a v :=
  ⟨hasRow_block h 0 56 (by rw [cmC_length]; decide), (rowAt_block h 0 56 (by rw [cmC_length]; decide)).trans (cm_whole a v)⟩
end Go.Proofs.YtcjacgjeiljfgaaGreatDoor

namespace Go.Proofs.YtcjacgjeiljfgaaGreatDoor
open Go.RowKit

theorem bCancF (f h g : Nat → Value) (d : Int) (w : World) : (Instr.build 40 #[(0, .agg ((List.range 32).map f).toArray), (1, .agg ((List.range 16).map h).toArray), (2, .int .i64 d), (3, .agg ((List.range 32).map g).toArray)]).run Tryz.prog w =
    .ok (.agg ((List.range 32).map f ++ ((List.range 16).map h ++ (.int .i64 d :: (List.range 32).map g))).toArray) w := by kernel_rfl
@[go_sem] theorem kCanc (i t : Id) (a : Aut) (d : Int) (w : World) : bdR Tryz.prog 40 #[(0, .agg (bC i).toArray), (1, .agg (bC a).toArray), (2, .int .i64 d), (3, .agg (bC t).toArray)] w = .ok (.value (.agg (cancC ⟨i, a, d, t⟩).toArray)) w := bd_of (by
  have e : cancC ⟨i, a, d, t⟩ = (List.range 32).map (byF i) ++ ((List.range 16).map (byF a) ++ (.int .i64 d :: (List.range 32).map (byF t))) := by rw [← bC_exp, ← bC_exp, ← bC_exp]; rfl
  rw [e, bC_exp, bC_exp, bC_exp]; exact bCancF _ _ _ d w)
theorem b0Canc (w : World) : (Instr.build 40 #[]).run Tryz.prog w = .ok (.agg (cancC canc0).toArray) w := by kernel_rfl
@[go_sem] theorem k0Canc (w : World) : bdR Tryz.prog 40 #[] w = .ok (.value (.agg (cancC canc0).toArray)) w := bd_of (b0Canc w)
theorem parseOC (s : ByteArray) (w : World) (hT : Tabs w) : Calls Tryz.prog 7 #[.string s] w (PrPost (parseS (bl s)) w) := parseAll s w hT.env hT.alph (env_lt hT.env)
theorem results_cell_tmp1 {P : Program} {fn : Func} {p u1 : Tmp} {ty : TypeId} (h : fn.results = #[.cell p ty, .tmp u1]) (tmps : Array Value) (w : World) (g : Nat) (t : TypeId) (cs : Array Value) (fr : Nat × Nat) (d : TypeDesc)
    (hp : tmps.getD p undef = .pointer (some ⟨g, 0, none⟩)) (hg : w.heap[g]? = some (.cells cs t fr))
    (hu : P.underlying ty = some d) (hd : (match d with | .struct _ | .array _ _ => true | _ => false) = true) (hi : (P.info? ty).map (·.size) = some cs.size) :
    (results fn tmps).run P w = .ok (.tuple #[.agg cs, tmps.getD u1 undef]) w := by
  have hp' : tmps[p]?.getD undef = .pointer (some ⟨g, 0, none⟩) := by simpa using hp
  simp [results, h, hp', asAddr, run_loadVar_row w g t ty cs fr d hg hu hd hi]
theorem heap3 (w : World) (a b c : Obj) : (((w.alloc a).alloc b).alloc c).heap[w.heap.size]? = some a ∧ (((w.alloc a).alloc b).alloc c).heap[w.heap.size + 1]? = some b ∧ (((w.alloc a).alloc b).alloc c).heap[w.heap.size + 1 + 1]? = some c ∧ (((w.alloc a).alloc b).alloc c).heap.size = w.heap.size + 3 := by
  have e : (((w.alloc a).alloc b).alloc c).heap = ((w.heap.push a).push b).push c := rfl
  rw [e]
  refine ⟨?_, ?_, ?_, by simp⟩
  · rw [Array.getElem?_push, if_neg (by simp; omega), Array.getElem?_push, if_neg (by simp), Array.getElem?_push, if_pos rfl]
  · rw [Array.getElem?_push, if_neg (by simp), Array.getElem?_push, if_pos (by simp)]
  · rw [Array.getElem?_push, if_pos (by simp)]
set_option maxRecDepth 100000 in
set_option maxHeartbeats 4000000 in
theorem ofC (id : Id) (c : Ctt) (w : World) (hT : Tabs w) (hg : CttGood c) :
    Calls Tryz.prog 6 #[.agg (bC id).toArray, .agg (cttC c).toArray] w fun e w' => e = .returned (.tuple #[.agg (cancC (ofV id c)).toArray, .bool (ofB (bl c.control))]) ∧ Gr w w' := by
  have h1 : oneB (cttC c) = true := by
    obtain ⟨⟨ga, gn, gk, hga⟩, ra, rn, rk, hra⟩ := hg
    exact ctt_one c (by rw [hga]; rfl) (by rw [hra]; rfl)
  have gA := (((Gr.refl w).alloc (.cells (bC id).toArray 23)).alloc (.cells (cttC c).toArray 31)).alloc (.cells (cancC canc0).toArray 40)
  have HP := Lib.hid (parseOC c.control _ (hT.gr gA))
  have G0 := Lib.hid gA
  have HV : ofV id c = if (decide ((parseS (bl c.control)).2.2 = 0) && decide ((parseS (bl c.control)).1.kind = 1)) = true then ⟨id, c.author, c.date, (parseS (bl c.control)).1.target⟩ else canc0 := rfl
  have HB : ofB (bl c.control) = (decide ((parseS (bl c.control)).2.2 = 0) && decide ((parseS (bl c.control)).1.kind = 1)) := rfl
  unfold PrPost at HP
  clear hT hg gA
  generalize parseS (bl c.control) = p at *
  obtain ⟨d, k, er⟩ := p
  simp only at HP HV HB
  generalize ofV id c = V at *
  generalize ofB (bl c.control) = B at *
  have HV := Lib.hid HV; have HB := Lib.hid HB
  go_enter Tryz.func6, Tryz.ntmps6
  go_wp2_with fail
  refine HP.out.mono ?_
  rintro e w1 ⟨v, rfl, hv, hg1⟩
  obtain ⟨a, cap, rfl, -⟩ := hv
  obtain ⟨k0, k1, k2, k3⟩ := heap3 w (.cells (bC id).toArray 23) (.cells (cttC c).toArray 31) (.cells (cancC canc0).toArray 40)
  have hs1 := hg1.size
  have u0 := (hg1.block (b := w.heap.size) (by omega)).trans k0
  have u1 := (hg1.block (b := w.heap.size + 1) (by omega)).trans k1
  have u2 := (hg1.block (b := w.heap.size + 1 + 1) (by omega)).trans k2
  rw [k3] at hs1
  clear k0 k1 k2 k3
  have G1 := Lib.hid (G0.out.trans hg1)
  have H2 := Lib.hid u2
  have q0 := (rowAt_block u0 0 32 (by rw [bC_length]; decide)).trans (rowOf_all _ _ (bC_length _))
  have r0 := hasRow_block u0 0 32 (by rw [bC_length]; decide)
  have q1 := (rowAt_block u1 1 16 (by rw [cttC_length]; decide)).trans (ctt_author c)
  have r1 := hasRow_block u1 1 16 (by rw [cttC_length]; decide)
  have z1 := (cell_block u1 17).trans (ctt_date c)
  have f2 := freeRow_block u2 0 81
  have r2 := hasRow_block u2 0 81 (by rw [cancC_length]; decide)
  have l0 : w.heap.size < w1.heap.size := by omega
  have l1 : w.heap.size + 1 < w1.heap.size := by omega
  have l2 : w.heap.size + 1 + 1 < w1.heap.size := by omega
  clear hg1 HP G0 u0 u1 u2 h1 hs1
  generalize (d.mods.map bC).length = m at *
  by_cases he : er = 0
  · subst he
    by_cases hk : d.kind = 1
    · have x1 : (d.kind == 1) = true := by rw [hk]; rfl
      have x2 : (d.kind != 1) = false := by rw [hk]; rfl
      have E := Lib.hid (show V = ⟨id, c.author, c.date, d.target⟩ ∧ B = true from ⟨HV.out.trans (if_pos (by rw [decide_eq_true hk]; rfl)), HB.out.trans (by rw [decide_eq_true hk]; rfl)⟩)
      clear hk
      go_wp2_with fail
      have hw := sets_whole (cs := cancC ⟨id, c.author, c.date, d.target⟩) ((((Gr.refl w1).alloc (.cells (cmC d (.slice a m cap)).toArray 38)).block l2).trans H2.out) (by simp only [cancC_length])
      refine bodyPost_ret (results_cell_tmp1 (p := 4) (u1 := 5) rfl _ _ (w.heap.size + 1 + 1) _ _ _ _ rfl hw Tryz.underlying40 rfl (by rw [List.size_toArray, cancC_length]; kernel_rfl)) rfl ?_
      exact ⟨by rw [E.out.1, E.out.2]; rfl, Gr.of_grownBy (grown_sets (b := w.heap.size + 1 + 1) (w := w) (by omega) _ 0 _ (G1.out.alloc _).grownBy)⟩
    · have x1 : (d.kind == 1) = false := by simpa using hk
      have x2 : (d.kind != 1) = true := by simpa using hk
      have E := Lib.hid (show V = canc0 ∧ B = false from ⟨HV.out.trans (if_neg (by rw [decide_eq_false hk]; simp)), HB.out.trans (by rw [decide_eq_false hk]; simp)⟩)
      clear hk
      go_wp2_with fail
      have hw := sets_whole (cs := cancC canc0) ((((Gr.refl w1).alloc (.cells (cmC d (.slice a m cap)).toArray 38)).block l2).trans H2.out) (by simp only [cancC_length])
      refine bodyPost_ret (results_cell_tmp1 (p := 4) (u1 := 5) rfl _ _ (w.heap.size + 1 + 1) _ _ _ _ rfl hw Tryz.underlying40 rfl (by rw [List.size_toArray, cancC_length]; kernel_rfl)) rfl ?_
      exact ⟨by rw [E.out.1, E.out.2]; rfl, Gr.of_grownBy (grown_sets (b := w.heap.size + 1 + 1) (w := w) (by omega) _ 0 _ (G1.out.alloc _).grownBy)⟩
  · have x1 : (er == 0) = false := by simpa using he
    have x2 : (er != 0) = true := by simpa using he
    have E := Lib.hid (show V = canc0 ∧ B = false from ⟨HV.out.trans (if_neg (by rw [decide_eq_false he]; simp)), HB.out.trans (by rw [decide_eq_false he]; simp)⟩)
    clear he
    go_wp2_with fail
    have hw := sets_whole (cs := cancC canc0) ((((Gr.refl w1).alloc (.cells (cmC d (.slice a m cap)).toArray 38)).block l2).trans H2.out) (by simp only [cancC_length])
    refine bodyPost_ret (results_cell_tmp1 (p := 4) (u1 := 5) rfl _ _ (w.heap.size + 1 + 1) _ _ _ _ rfl hw Tryz.underlying40 rfl (by rw [List.size_toArray, cancC_length]; kernel_rfl)) rfl ?_
    exact ⟨by rw [E.out.1, E.out.2]; rfl, Gr.of_grownBy (grown_sets (b := w.heap.size + 1 + 1) (w := w) (by omega) _ 0 _ (G1.out.alloc _).grownBy)⟩
end Go.Proofs.YtcjacgjeiljfgaaGreatDoor

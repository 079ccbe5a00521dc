/- The records of the statements as rows of cells: a cancellation, a row, a definition; their parts; equality of byte arrays. -/
import Derived.Test.YtcdcmohccbhchaaGreatDoorRow
import Derived.ChangeKeysEq
namespace Go.Proofs.YtcdcmohccbhchaaGreatDoor
open Go.RowKit

section
variable {P : Program}
theorem run_eqItems_bytes (w : World) (d : Nat) {e : TypeId} (he : P.underlying e = some (.int .u8)) {n : Nat} (x y : Vector UInt8 n) : ∀ (is : List Nat), (∀ i ∈ is, i < n) →
    (Op.eqItems (d + 1) e 1 (bC x).toArray (bC y).toArray is).run P w = .ok (is.all fun i => x.toList[i]? == y.toList[i]?) w
  | [], _ => by simp [Op.eqItems]
  | i :: is, h => by
    have hi : i < n := h i (by simp)
    have ih := run_eqItems_bytes w d he x y is (fun j hj => h j (by simp [hj]))
    have hp : ∀ z : Vector UInt8 n, (part e (bC z).toArray (i * 1)).run P w = .ok (.int .u8 (z[i].toNat : Int)) w := by
      intro z
      have hg : (bC z).toArray[i]? = some (.int .u8 (z[i].toNat : Int)) := by simp [bC, hi]
      simp [part, isAgg, run_underlying he, hg]
    simp only [Op.eqItems, Sem.run_bind, hp, Result.andThen_ok, run_equalIn_int w d e .u8 .u8 _ _ he]
    have e1 : (x.toList[i]? == y.toList[i]?) = (((x[i].toNat : Int)) == (y[i].toNat : Int)) := by
      rw [Bool.eq_iff_iff]
      simp only [beq_iff_eq, Vector.getElem?_toList, Vector.getElem?_eq_getElem hi, Option.some.injEq]
      exact ⟨fun h => by rw [h], fun h => UInt8.toNat_inj.1 (by omega)⟩
    rw [List.all_cons, e1]
    cases hb : ((x[i].toNat : Int) == (y[i].toNat : Int))
    · simp
    · simpa using ih

theorem all_bytes {n : Nat} (x y : Vector UInt8 n) : ((List.range n).all fun i => x.toList[i]? == y.toList[i]?) = (x == y) := by
  rw [Bool.eq_iff_iff]
  simp only [List.all_eq_true, List.mem_range, beq_iff_eq]
  constructor
  · intro h
    apply Vector.ext
    intro i hi
    have := h i hi
    simpa [Vector.getElem?_toList, Vector.getElem?_eq_getElem hi] using this
  · intro h i _; rw [h]

theorem run_equalIn_bytes (w : World) (d : Nat) {t e : TypeId} {n : Nat} (hu : P.underlying t = some (.array n e)) (he : P.underlying e = some (.int .u8)) (c1 : P.cellsOf e = 1) (x y : Vector UInt8 n) :
    (Op.equalIn (d + 2) t (.agg (bC x).toArray) (.agg (bC y).toArray)).run P w = .ok (x == y) w := by
  obtain ⟨i, hi⟩ := info_of_underlying he
  rw [run_equalIn_array w (d + 1) _ _ hu hi, c1, run_eqItems_bytes w d he x y _ (fun i hi => by simpa using hi), all_bytes]
theorem eql_bytes {t e : TypeId} {n : Nat} (hu : P.underlying t = some (.array n e)) (he : P.underlying e = some (.int .u8)) (c1 : P.cellsOf e = 1) (x y : Vector UInt8 n) (w : World) :
    Sem.run P (binOp .eql t (.agg (bC x).toArray) (.agg (bC y).toArray)) w = .ok (.bool (x == y)) w := by
  rw [run_eql_struct, run_equalIn_bytes w 9998 hu he c1]; rfl
theorem neq_bytes {t e : TypeId} {n : Nat} (hu : P.underlying t = some (.array n e)) (he : P.underlying e = some (.int .u8)) (c1 : P.cellsOf e = 1) (x y : Vector UInt8 n) (w : World) :
    Sem.run P (binOp .neq t (.agg (bC x).toArray) (.agg (bC y).toArray)) w = .ok (.bool (!(x == y))) w := by
  rw [run_neq_struct, run_equalIn_bytes w 9998 hu he c1]; rfl
end

/-! ### records -/
abbrev Id := Vector UInt8 32
abbrev Aut := Vector UInt8 16
structure Canc where
  id : Id
  author : Aut
  date : Int
  target : Id
structure Rw where
  id : Id
  author : Aut
  date : Int
  groups : Value
  refs : Value
  sup : Id
structure Dfn where
  id : Id
  author : Aut
  group : ByteArray
  version : Int
  removed : Bool
  moderated : Bool
  mods : Value
  text : ByteArray
def cancC (y : Canc) : List Value := bC y.id ++ (bC y.author ++ (.int .i64 y.date :: bC y.target))
def rwC (x : Rw) : List Value := bC x.id ++ (bC x.author ++ (.int .i64 x.date :: x.groups :: x.refs :: bC x.sup))
def dfnC (d : Dfn) : List Value := bC d.id ++ (bC d.author ++ [.string d.group, .int .i64 d.version, .bool d.removed, .bool d.moderated, d.mods, .string d.text])
theorem cancC_length (y : Canc) : (cancC y).length = 81 := by simp [cancC, bC_length]
theorem rwC_length (x : Rw) : (rwC x).length = 83 := by simp [rwC, bC_length]
theorem dfnC_length (d : Dfn) : (dfnC d).length = 54 := by simp [dfnC, bC_length]

theorem rowOf_app_l (a b : List Value) (n : Nat) (h : a.length = n) : rowOf (a ++ b) 0 n = a := by
  unfold rowOf; rw [List.drop_zero, List.take_append_of_le_length (by omega), List.take_of_length_le (by omega)]
theorem rowOf_app_r (a b : List Value) (k n m : Nat) (h : a.length = m) (hk : m ≤ k) : rowOf (a ++ b) k n = rowOf b (k - m) n := by
  unfold rowOf; rw [List.drop_append, List.drop_of_length_le (by omega), List.nil_append, h]
theorem rowOf_cons (a : Value) (b : List Value) (k n : Nat) (hk : 0 < k) : rowOf (a :: b) k n = rowOf b (k - 1) n := by
  unfold rowOf; obtain ⟨j, rfl⟩ := Nat.exists_eq_succ_of_ne_zero (Nat.ne_of_gt hk); rfl
theorem rowOf_all (a : List Value) (n : Nat) (h : a.length = n) : rowOf a 0 n = a := by
  unfold rowOf; rw [List.drop_zero, List.take_of_length_le (by omega)]
theorem get_app_r (a b : List Value) (k m : Nat) (h : a.length = m) (hk : m ≤ k) : (a ++ b)[k]? = b[k - m]? := by
  rw [List.getElem?_append_right (by omega), h]

theorem get_of {l : List Value} {k : Nat} {v : Value} (h : l[k]? = some v) (hk : k < l.length) : l[k] = v := by rw [List.getElem?_eq_getElem hk] at h; exact Option.some.inj h
section
variable (y : Canc) (x : Rw) (d : Dfn)
theorem canc_id : rowOf (cancC y) 0 32 = bC y.id := rowOf_app_l _ _ _ (bC_length _)
theorem canc_author : rowOf (cancC y) 32 16 = bC y.author := by
  unfold cancC; rw [rowOf_app_r _ _ _ _ 32 (bC_length _) (by decide), rowOf_app_l _ _ _ (bC_length _)]
theorem canc_date : (cancC y)[48]? = some (.int .i64 y.date) := by
  unfold cancC; rw [get_app_r _ _ _ 32 (bC_length _) (by decide), get_app_r _ _ _ 16 (bC_length _) (by decide)]; rfl
theorem canc_target : rowOf (cancC y) 49 32 = bC y.target := by
  unfold cancC; rw [rowOf_app_r _ _ _ _ 32 (bC_length _) (by decide), rowOf_app_r _ _ _ _ 16 (bC_length _) (by decide), rowOf_cons _ _ _ _ (by decide), rowOf_all _ _ (bC_length _)]
theorem canc_whole : rowOf (cancC y) 0 81 = cancC y := rowOf_all _ _ (cancC_length y)
theorem canc_one : oneB (cancC y) = true := by simp [cancC, oneB_append, oneB_cons, oneB_bC, Value.oneCell']
theorem rw_id : rowOf (rwC x) 0 32 = bC x.id := rowOf_app_l _ _ _ (bC_length _)
theorem rw_author : rowOf (rwC x) 32 16 = bC x.author := by
  unfold rwC; rw [rowOf_app_r _ _ _ _ 32 (bC_length _) (by decide), rowOf_app_l _ _ _ (bC_length _)]
theorem rw_date : (rwC x)[48]? = some (.int .i64 x.date) := by
  unfold rwC; rw [get_app_r _ _ _ 32 (bC_length _) (by decide), get_app_r _ _ _ 16 (bC_length _) (by decide)]; rfl
theorem rw_groups : (rwC x)[49]? = some x.groups := by
  unfold rwC; rw [get_app_r _ _ _ 32 (bC_length _) (by decide), get_app_r _ _ _ 16 (bC_length _) (by decide)]; rfl
theorem rw_refs : (rwC x)[50]? = some x.refs := by
  unfold rwC; rw [get_app_r _ _ _ 32 (bC_length _) (by decide), get_app_r _ _ _ 16 (bC_length _) (by decide)]; rfl
theorem rw_sup : rowOf (rwC x) 51 32 = bC x.sup := by
  unfold rwC; rw [rowOf_app_r _ _ _ _ 32 (bC_length _) (by decide), rowOf_app_r _ _ _ _ 16 (bC_length _) (by decide), rowOf_cons _ _ _ _ (by decide), rowOf_cons _ _ _ _ (by decide), rowOf_cons _ _ _ _ (by decide), rowOf_all _ _ (bC_length _)]
theorem rw_whole : rowOf (rwC x) 0 83 = rwC x := rowOf_all _ _ (rwC_length x)
theorem dfn_id : rowOf (dfnC d) 0 32 = bC d.id := rowOf_app_l _ _ _ (bC_length _)
theorem dfn_author : rowOf (dfnC d) 32 16 = bC d.author := by
  unfold dfnC; rw [rowOf_app_r _ _ _ _ 32 (bC_length _) (by decide), rowOf_app_l _ _ _ (bC_length _)]
theorem dfn_at (k : Nat) (h : 48 ≤ k) : (dfnC d)[k]? = [Value.string d.group, .int .i64 d.version, .bool d.removed, .bool d.moderated, d.mods, .string d.text][k - 48]? := by
  unfold dfnC; rw [get_app_r _ _ _ 32 (bC_length _) (by omega), get_app_r _ _ _ 16 (bC_length _) (by omega), Nat.sub_sub]
theorem dfn_group : (dfnC d)[48]? = some (.string d.group) := dfn_at d 48 (by decide)
theorem dfn_version : (dfnC d)[49]? = some (.int .i64 d.version) := dfn_at d 49 (by decide)
theorem dfn_removed : (dfnC d)[50]? = some (.bool d.removed) := dfn_at d 50 (by decide)
theorem dfn_moderated : (dfnC d)[51]? = some (.bool d.moderated) := dfn_at d 51 (by decide)
theorem dfn_mods : (dfnC d)[52]? = some d.mods := dfn_at d 52 (by decide)
theorem dfn_text : (dfnC d)[53]? = some (.string d.text) := dfn_at d 53 (by decide)
theorem dfn_whole : rowOf (dfnC d) 0 54 = dfnC d := rowOf_all _ _ (dfnC_length d)
theorem canc_date' (h : 48 < (cancC y).length) : (cancC y)[48] = .int .i64 y.date := get_of (canc_date y) h
theorem rw_date' (h : 48 < (rwC x).length) : (rwC x)[48] = .int .i64 x.date := get_of (rw_date x) h
theorem rw_groups' (h : 49 < (rwC x).length) : (rwC x)[49] = x.groups := get_of (rw_groups x) h
theorem rw_refs' (h : 50 < (rwC x).length) : (rwC x)[50] = x.refs := get_of (rw_refs x) h
theorem dfn_group' (h : 48 < (dfnC d).length) : (dfnC d)[48] = .string d.group := get_of (dfn_group d) h
theorem dfn_version' (h : 49 < (dfnC d).length) : (dfnC d)[49] = .int .i64 d.version := get_of (dfn_version d) h
theorem dfn_removed' (h : 50 < (dfnC d).length) : (dfnC d)[50] = .bool d.removed := get_of (dfn_removed d) h
theorem dfn_moderated' (h : 51 < (dfnC d).length) : (dfnC d)[51] = .bool d.moderated := get_of (dfn_moderated d) h
theorem dfn_mods' (h : 52 < (dfnC d).length) : (dfnC d)[52] = d.mods := get_of (dfn_mods d) h
theorem dfn_text' (h : 53 < (dfnC d).length) : (dfnC d)[53] = .string d.text := get_of (dfn_text d) h
theorem dfn_setmods (v : Value) : (dfnC d).set 52 v = dfnC { d with mods := v } := by
  have h1 := bC_length d.id
  have h2 := bC_length d.author
  unfold dfnC
  rw [List.set_append_right _ _ (by omega), h1, List.set_append_right _ _ (by omega), h2]
  rfl
end
end Go.Proofs.YtcdcmohccbhchaaGreatDoor

/- The order of cancellations, by date and identity: plain facts; the least of a set does not hang on the set's order. -/
import Derived.Test.YtemhfcfebkjioaaGreatDoorBy
import Derived.Sort.Walk0
namespace Go.Proofs.YtemhfcfebkjioaaGreatDoor
open Go.RowKit

/-- Bytes as one number. -/
def num : List UInt8 → Nat
  | [] => 0
  | b :: l => b.toNat * 256 ^ l.length + num l
theorem num_lt : ∀ l : List UInt8, num l < 256 ^ l.length
  | [] => by simp [num]
  | b :: l => by
    have h1 := num_lt l
    have h2 : (b.toNat + 1) * 256 ^ l.length ≤ 256 * 256 ^ l.length := Nat.mul_le_mul_right _ (by have := b.toNat_lt; omega)
    rw [Nat.succ_mul] at h2
    simp only [num, List.length_cons, Nat.pow_succ]
    omega
theorem num_lt_of {a b : UInt8} {x y : List UInt8} (hl : x.length = y.length) (h : a.toNat < b.toNat) : num (a :: x) < num (b :: y) := by
  have h1 := num_lt x
  have h2 : (a.toNat + 1) * 256 ^ x.length ≤ b.toNat * 256 ^ x.length := Nat.mul_le_mul_right _ h
  rw [Nat.succ_mul] at h2
  simp only [num, ← hl]
  omega
theorem cmp_num : ∀ (x y : List UInt8), x.length = y.length → Lib.compareBytes x y = cmpI (num x : Int) (num y : Int)
  | [], [], _ => by simp [Lib.compareBytes, num, cmpI_self]
  | [], _ :: _, h => by simp at h
  | _ :: _, [], h => by simp at h
  | a :: x, b :: y, h => by
    have hl : x.length = y.length := by simpa using h
    have ih := cmp_num x y hl
    rw [Lib.compareBytes]
    rcases Nat.lt_trichotomy a.toNat b.toNat with c | c | c
    · have := num_lt_of hl c
      rw [if_pos (UInt8.lt_iff_toNat_lt.2 c)]; unfold cmpI; rw [if_pos (by omega)]
    · rw [if_neg (fun k => by have := UInt8.lt_iff_toNat_lt.1 k; omega), if_neg (fun k => by have := UInt8.lt_iff_toNat_lt.1 k; omega), ih]
      have e : (num (a :: x) : Int) = a.toNat * 256 ^ x.length + num x := by simp [num]
      have e2 : (num (b :: y) : Int) = a.toNat * 256 ^ x.length + num y := by simp [num, c, hl]
      rw [e, e2]; unfold cmpI
      generalize ((a.toNat : Int) * 256 ^ x.length) = z
      repeat' split
      all_goals omega
    · have := num_lt_of hl.symm c
      rw [if_neg (fun k => by have := UInt8.lt_iff_toNat_lt.1 k; omega), if_pos (UInt8.lt_iff_toNat_lt.2 c)]; unfold cmpI; rw [if_neg (by omega), if_pos (by omega)]
theorem cmp_zero : ∀ (x y : List UInt8), Lib.compareBytes x y = 0 → x = y
  | [], [], _ => rfl
  | [], _ :: _, h => by simp [Lib.compareBytes] at h
  | _ :: _, [], h => by simp [Lib.compareBytes] at h
  | a :: x, b :: y, h => by
    rw [Lib.compareBytes] at h
    by_cases c : a < b
    · rw [if_pos c] at h; simp at h
    · rw [if_neg c] at h
      by_cases c2 : b < a
      · rw [if_pos c2] at h; simp at h
      · rw [if_neg c2] at h
        have e : a = b := UInt8.toNat_inj.1 (by rw [UInt8.lt_iff_toNat_lt] at c c2; omega)
        rw [e, cmp_zero x y h]
theorem cmp_less : ∀ (x y : List UInt8), Op.bytesLess x y = decide (Lib.compareBytes x y < 0)
  | [], [] => by simp [Op.bytesLess, Lib.compareBytes]
  | [], _ :: _ => by simp [Op.bytesLess, Lib.compareBytes]
  | _ :: _, [] => by simp [Op.bytesLess, Lib.compareBytes]
  | a :: x, b :: y => by
    rw [Op.bytesLess, Lib.compareBytes, cmp_less x y]
    by_cases c : a < b
    · simp [c]
    · by_cases c2 : b < a
      · have e : (a == b) = false := by simp; intro e; rw [e] at c2; exact UInt8.lt_irrefl _ c2
        simp [c, c2, e]
      · have e : (a == b) = true := by simp; exact UInt8.toNat_inj.1 (by rw [UInt8.lt_iff_toNat_lt] at c c2; omega)
        simp [c, c2, e]
def nm (x : Id) : Nat := num x.toList
theorem cmpB_num (x y : Id) : cmpB x y = cmpI (nm x : Int) (nm y : Int) := cmp_num _ _ (by simp)
theorem nm_inj {x y : Id} (h : nm x = nm y) : x = y := by
  have e : cmpB x y = 0 := by rw [cmpB_num, h, cmpI_self]
  exact Vector.toList_inj.1 (cmp_zero _ _ e)

/-- a does not come behind b. -/
def le3 (a b : Canc) : Prop := a.date < b.date ∨ (a.date = b.date ∧ nm a.id ≤ nm b.id)
theorem cfC_neg (a b : Canc) : cfC a b < 0 ↔ a.date < b.date ∨ (a.date = b.date ∧ nm a.id < nm b.id) := by
  unfold cfC; rw [cmpB_num]; unfold orI cmpI
  repeat' split
  all_goals omega
theorem cfC_not (a b : Canc) : ¬ cfC a b < 0 ↔ le3 b a := by
  rw [cfC_neg]; unfold le3; omega
theorem le3_refl (a : Canc) : le3 a a := by unfold le3; omega
theorem le3_trans {a b c : Canc} (h : le3 a b) (k : le3 b c) : le3 a c := by unfold le3 at *; omega
theorem le3_of_neg {a b : Canc} (h : cfC a b < 0) : le3 a b := by rw [cfC_neg] at h; unfold le3; omega
theorem minFrom_spec : ∀ (l : List Canc) (m : Canc), minFrom m l ∈ m :: l ∧ ∀ y ∈ m :: l, le3 (minFrom m l) y
  | [], m => ⟨by simp [minFrom], by simp [minFrom]; exact le3_refl m⟩
  | z :: l, m => by
    have e : minFrom m (z :: l) = minFrom (if cfC z m < 0 then z else m) l := rfl
    rw [e]
    by_cases h : cfC z m < 0
    · rw [if_pos h]
      obtain ⟨h1, h2⟩ := minFrom_spec l z
      refine ⟨List.mem_cons_of_mem _ h1, fun y hy => ?_⟩
      rcases List.mem_cons.1 hy with rfl | hy
      · exact le3_trans (h2 z (by simp)) (le3_of_neg h)
      · exact h2 y hy
    · rw [if_neg h]
      obtain ⟨h1, h2⟩ := minFrom_spec l m
      refine ⟨by rcases List.mem_cons.1 h1 with h1 | h1 <;> simp [h1], fun y hy => ?_⟩
      rcases List.mem_cons.1 hy with rfl | hy
      · exact h2 _ (by simp)
      · rcases List.mem_cons.1 hy with rfl | hy
        · exact le3_trans (h2 m (by simp)) ((cfC_not _ _).1 h)
        · exact h2 y (by simp [hy])

section
variable (x : Rw) (gs : List ByteArray) (ents : List (Dfn × List Aut))
theorem byR_none (l : List Canc) : byR x gs ents l = none ↔ filt x gs ents l = [] := by
  unfold byR; cases filt x gs ents l <;> simp
theorem byR_some {l : List Canc} {m : Canc} (h : byR x gs ents l = some m) : m ∈ filt x gs ents l ∧ ∀ y ∈ filt x gs ents l, le3 m y := by
  unfold byR at h
  cases hf : filt x gs ents l with
  | nil => rw [hf] at h; cases h
  | cons y ys =>
    rw [hf] at h
    have := Option.some.inj h
    subst this
    exact minFrom_spec ys y
/-- What By tells hangs on the set alone. -/
theorem byR_same {l l' : List Canc} (h : ∀ y, y ∈ l ↔ y ∈ l') : byId (byR x gs ents l) = byId (byR x gs ents l') ∧ (byR x gs ents l).isSome = (byR x gs ents l').isSome := by
  have hf : ∀ y, y ∈ filt x gs ents l ↔ y ∈ filt x gs ents l' := by intro y; unfold filt; simp only [List.mem_filter, h y]
  cases h1 : byR x gs ents l with
  | none =>
    have e1 := (byR_none x gs ents l).1 h1
    have e2 : filt x gs ents l' = [] := List.eq_nil_iff_forall_not_mem.2 fun y hy => by have := (hf y).2 hy; rw [e1] at this; cases this
    rw [(byR_none x gs ents l').2 e2]; exact ⟨rfl, rfl⟩
  | some m =>
    cases h2 : byR x gs ents l' with
    | none =>
      have e1 := (byR_none x gs ents l').1 h2
      have := (hf m).1 (byR_some x gs ents h1).1
      rw [e1] at this; cases this
    | some m' =>
      obtain ⟨a1, a2⟩ := byR_some x gs ents h1
      obtain ⟨b1, b2⟩ := byR_some x gs ents h2
      have c1 := a2 m' ((hf m').2 b1)
      have c2 := b2 m ((hf m).1 a1)
      refine ⟨nm_inj ?_, rfl⟩
      show nm m.id = nm m'.id
      unfold le3 at c1 c2; omega
/-- Does y take the place of the best so far? -/
def bestB (o : Option Canc) (y : Canc) : Bool := match o with | none => true | some m => decide (cfC y m < 0)
theorem byR_succ (l : List Canc) (k : Nat) (h : k < l.length) : byR x gs ents (l.take (k + 1)) = if (countsB l[k] x gs ents && bestB (byR x gs ents (l.take k)) l[k]) = true then some l[k] else byR x gs ents (l.take k) := by
  unfold byR
  rw [filt_succ x gs ents l k h]
  cases hc : countsB l[k] x gs ents with
  | false => simp
  | true =>
    rw [if_pos rfl, Bool.true_and]
    cases filt x gs ents (l.take k) with
    | nil => rfl
    | cons a q =>
      show some (minFrom a (q ++ [l[k]])) = _
      have e : minFrom a (q ++ [l[k]]) = if cfC l[k] (minFrom a q) < 0 then l[k] else minFrom a q := by unfold minFrom; rw [List.foldl_append]; rfl
      rw [e]
      show _ = if decide (cfC l[k] (minFrom a q) < 0) = true then _ else _
      by_cases hx : cfC l[k] (minFrom a q) < 0
      · simp [hx]
      · simp [hx]
end

/-- A list gone through from another end, backwards. -/
def turnAt (n k t : Nat) : Nat := (n - 1 - k + t) % n
theorem turnAt_lt {n k t : Nat} (h : k < n) : turnAt n k t < n := Nat.mod_lt _ (by omega)
theorem turnAt_back {n j t : Nat} (h : j < n) : turnAt n (turnAt n j t) t = j := by
  have h1 := Nat.div_add_mod (n - 1 - j + t) n
  have h2 := turnAt_lt (n := n) (k := j) (t := t) h
  unfold turnAt at h2 ⊢
  generalize hm : (n - 1 - j + t) % n = i at *
  have e : n - 1 - i + t = j + n * ((n - 1 - j + t) / n) := by omega
  rw [e, Nat.add_mul_mod_self_left, Nat.mod_eq_of_lt h]
def turned (l : List Canc) (t k : Nat) : List Canc := (List.range k).filterMap fun i => l[turnAt l.length i t]?
theorem turned_succ (l : List Canc) (t k : Nat) (h : k < l.length) : turned l t (k + 1) = turned l t k ++ [l[turnAt l.length k t]'(turnAt_lt h)] := by
  unfold turned; rw [List.range_succ, List.filterMap_append]; simp [turnAt_lt h]
theorem turned_len (l : List Canc) (t : Nat) : ∀ k, k ≤ l.length → (turned l t k).length = k
  | 0, _ => by simp [turned]
  | k + 1, h => by rw [turned_succ l t k (by omega), List.length_append, turned_len l t k (by omega)]; rfl
theorem turned_same (l : List Canc) (t : Nat) : ∀ y, y ∈ l ↔ y ∈ turned l t l.length := by
  intro y
  unfold turned
  simp only [List.mem_filterMap, List.mem_range]
  constructor
  · intro hy
    obtain ⟨j, hj, rfl⟩ := List.getElem_of_mem hy
    exact ⟨turnAt l.length j t, turnAt_lt hj, by rw [turnAt_back hj]; exact List.getElem?_eq_getElem hj⟩
  · rintro ⟨i, _, h⟩; exact List.mem_of_getElem? h
end Go.Proofs.YtemhfcfebkjioaaGreatDoor

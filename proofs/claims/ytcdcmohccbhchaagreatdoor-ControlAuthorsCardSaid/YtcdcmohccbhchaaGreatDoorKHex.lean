/- Hexadecimal digits (plain): bytes to digits and back. -/
import Derived.Test.YtcdcmohccbhchaaGreatDoorKDat
namespace Go.Proofs.YtcdcmohccbhchaaGreatDoor
open Go.RowKit

def hexS : Str := [48, 49, 50, 51, 52, 53, 54, 55, 56, 57, 97, 98, 99, 100, 101, 102]
def hexV (c : UInt8) : Int := Lib.indexByte hexS c
def hexN (c : UInt8) : UInt8 := UInt8.ofNat (hexV c).toNat
def hexB (c : UInt8) : Bool := decide (0 ≤ hexV c)
def hexD (n : Nat) : UInt8 := hexS.getD n 0
/-- The digits of bytes. -/
def hexT (l : List UInt8) : Str := l.flatMap fun b => [hexD (b.toNat / 16), hexD (b.toNat % 16)]
/-- The bytes of pairs of digits. -/
def unhex : Str → List UInt8
  | a :: b :: l => (hexN a <<< 4 ||| hexN b) :: unhex l
  | _ => []
def vecOf (n : Nat) (l : List UInt8) : Vector UInt8 n := Vector.ofFn fun i => l.getD i.val 0
theorem vecOf_toList {n : Nat} {l : List UInt8} (h : l.length = n) : (vecOf n l).toList = l := by
  apply List.ext_getElem?
  intro i
  rw [Vector.getElem?_toList]
  by_cases hi : i < n
  · rw [Vector.getElem?_eq_getElem hi]
    simp [vecOf, hi, h]
  · rw [Vector.getElem?_eq_none (by omega), List.getElem?_eq_none (by omega)]
theorem vecOf_self {n : Nat} (x : Vector UInt8 n) : vecOf n x.toList = x := Vector.toList_inj.1 (vecOf_toList (by simp))

theorem all_u8 {p : UInt8 → Prop} (h : ∀ i : Fin 256, p (UInt8.ofNat i.val)) (c : UInt8) : p c := by
  have := h ⟨c.toNat, c.toNat_lt⟩
  simpa using this
theorem hex_back : ∀ c : UInt8, hexB c = true → hexD (hexV c).toNat = c ∧ (hexV c).toNat < 16 ∧ (hexN c).toNat = (hexV c).toNat := all_u8 (by decide +kernel)
theorem hexD_fin : ∀ i : Fin 16, hexB (hexD i.val) = true ∧ hexN (hexD i.val) = UInt8.ofNat i.val ∧ hexD i.val ≠ 32 ∧ hexD i.val ≠ 44 ∧ 32 < hexD i.val ∧ hexD i.val < 127 := by decide +kernel
theorem hexD_at (i : Nat) (h : i < 16) : hexB (hexD i) = true ∧ hexN (hexD i) = UInt8.ofNat i ∧ hexD i ≠ 32 ∧ hexD i ≠ 44 ∧ 32 < hexD i ∧ hexD i < 127 := hexD_fin ⟨i, h⟩
theorem two_digits : ∀ b : UInt8, UInt8.ofNat (b.toNat / 16) <<< 4 ||| UInt8.ofNat (b.toNat % 16) = b := all_u8 (by decide +kernel)
theorem two_fin : ∀ i j : Fin 16, (UInt8.ofNat i.val <<< 4 ||| UInt8.ofNat j.val).toNat = 16 * i.val + j.val := by decide +kernel
theorem two_at (i j : Nat) (hi : i < 16) (hj : j < 16) : (UInt8.ofNat i <<< 4 ||| UInt8.ofNat j).toNat = 16 * i + j := two_fin ⟨i, hi⟩ ⟨j, hj⟩
theorem hexT_nil : hexT [] = [] := rfl
theorem hexT_cons (b : UInt8) (l : List UInt8) : hexT (b :: l) = hexD (b.toNat / 16) :: hexD (b.toNat % 16) :: hexT l := rfl
theorem hexT_len (l : List UInt8) : (hexT l).length = 2 * l.length := by
  induction l with
  | nil => rfl
  | cons b l ih => rw [hexT_cons]; simp only [List.length_cons, ih]; omega
theorem hexT_all {p : UInt8 → Prop} (h : ∀ i, i < 16 → p (hexD i)) (l : List UInt8) : ∀ c ∈ hexT l, p c := by
  intro c hc
  obtain ⟨b, _, hb⟩ := List.mem_flatMap.1 hc
  have := b.toNat_lt
  rcases List.mem_cons.1 hb with rfl | hb
  · exact h _ (by omega)
  · rw [List.mem_singleton] at hb; subst hb; exact h _ (by omega)
theorem hexT_hex (l : List UInt8) : (hexT l).all hexB = true := List.all_eq_true.2 (hexT_all (p := fun c => hexB c = true) (fun i hi => (hexD_at i hi).1) l)
theorem unhex_hexT (l : List UInt8) : unhex (hexT l) = l := by
  induction l with
  | nil => rfl
  | cons b l ih =>
    have := b.toNat_lt
    rw [hexT_cons, unhex, ih, (hexD_at (b.toNat / 16) (by omega)).2.1, (hexD_at (b.toNat % 16) (by omega)).2.1, two_digits]
theorem hexT_unhex : ∀ (n : Nat) (s : Str), s.length = 2 * n → s.all hexB = true → hexT (unhex s) = s
  | 0, s, h, _ => by
    have e : s = [] := List.length_eq_zero_iff.1 (by omega)
    subst e; rfl
  | n + 1, s, h, hd => by
    obtain ⟨a, b, l, rfl⟩ : ∃ a b l, s = a :: b :: l := by
      match s, h with
      | a :: b :: l, _ => exact ⟨a, b, l, rfl⟩
      | [a], h => simp at h; omega
      | [], h => simp at h
    simp only [List.all_cons, Bool.and_eq_true] at hd
    obtain ⟨a1, a2, a3⟩ := hex_back a hd.1
    obtain ⟨b1, b2, b3⟩ := hex_back b hd.2.1
    have ht := two_at (hexV a).toNat (hexV b).toNat a2 b2
    rw [unhex, hexT_cons, hexT_unhex n l (by simp at h; omega) hd.2.2]
    have e : (hexN a <<< 4 ||| hexN b).toNat = 16 * (hexV a).toNat + (hexV b).toNat := ht
    rw [e, show (16 * (hexV a).toNat + (hexV b).toNat) / 16 = (hexV a).toNat by omega, show (16 * (hexV a).toNat + (hexV b).toNat) % 16 = (hexV b).toNat by omega, a1, b1]
theorem unhex_len : ∀ (n : Nat) (s : Str), s.length = 2 * n → (unhex s).length = n
  | 0, s, h => by
    have e : s = [] := List.length_eq_zero_iff.1 (by omega)
    subst e; rfl
  | n + 1, s, h => by
    match s, h with
    | a :: b :: l, h => rw [unhex, List.length_cons, unhex_len n l (by simp at h; omega)]
    | [a], h => simp at h; omega
    | [], h => simp at h

/-! ### digits put one after the other into bytes -/
def putD (l : List UInt8) (i : Nat) (v : UInt8) : List UInt8 := l.set (i / 2) (l.getD (i / 2) 0 <<< 4 ||| v)
def digTo (n : Nat) (s : Str) : Nat → List UInt8
  | 0 => List.replicate n 0
  | i + 1 => putD (digTo n s i) i (hexN (s.getD i 0))
theorem digTo_len (n : Nat) (s : Str) : ∀ i, (digTo n s i).length = n
  | 0 => by simp [digTo]
  | i + 1 => by rw [digTo, putD, List.length_set, digTo_len n s i]
theorem shl_zero : ∀ v : UInt8, (((0 : UInt8) <<< 4 ||| v)) = v := all_u8 (by decide +kernel)
theorem unhex_pair : ∀ (j : Nat) (s : Str), 2 * j + 1 < s.length → (unhex s)[j]? = some (hexN (s.getD (2 * j) 0) <<< 4 ||| hexN (s.getD (2 * j + 1) 0))
  | 0, s, h => by
    match s, h with
    | a :: b :: l, _ => rfl
    | [a], h => simp at h
    | [], h => simp at h
  | j + 1, s, h => by
    match s, h with
    | a :: b :: l, h =>
      rw [unhex, List.getElem?_cons_succ, unhex_pair j l (by simp at h; omega)]
      rw [show 2 * (j + 1) = 2 * j + 1 + 1 by omega]; rfl
    | [a], h => simp at h
    | [], h => simp at h
theorem digTo_even (n : Nat) (s : Str) (hs : s.length = 2 * n) : ∀ j, j ≤ n → digTo n s (2 * j) = (unhex s).take j ++ List.replicate (n - j) 0
  | 0, _ => by simp [digTo]
  | j + 1, h => by
    have ih := digTo_even n s hs j (by omega)
    have hl := unhex_len n s hs
    have e : 2 * (j + 1) = 2 * j + 1 + 1 := by omega
    have hp := unhex_pair j s (by omega)
    have ht : ((unhex s).take j).length = j := by rw [List.length_take]; omega
    have hr : List.replicate (n - j) (0 : UInt8) = 0 :: List.replicate (n - (j + 1)) 0 := by rw [show n - j = (n - (j + 1)) + 1 by omega]; rfl
    rw [e, digTo, digTo, ih, hr]
    have d1 : 2 * j / 2 = j := by omega
    have d2 : (2 * j + 1) / 2 = j := by omega
    have s1 : ∀ (v : UInt8) (r : List UInt8), ((unhex s).take j ++ v :: r).getD j 0 = v := by
      intro v r; rw [List.getD_eq_getElem?_getD, List.getElem?_append_right (by omega), ht, Nat.sub_self]; rfl
    have s2 : ∀ (v u : UInt8) (r : List UInt8), ((unhex s).take j ++ v :: r).set j u = (unhex s).take j ++ u :: r := by
      intro v u r; rw [List.set_append_right _ _ (by omega), ht, Nat.sub_self]; rfl
    unfold putD
    rw [d1, d2, s1, s2, s1, s2, shl_zero]
    have ex : j < (unhex s).length := by omega
    rw [List.take_succ_eq_append_getElem ex, List.append_assoc, List.singleton_append]
    rw [List.getElem?_eq_getElem ex] at hp
    rw [Option.some.inj hp]
theorem digTo_all (n : Nat) (s : Str) (hs : s.length = 2 * n) : digTo n s (2 * n) = unhex s := by
  rw [digTo_even n s hs n (Nat.le_refl _), Nat.sub_self, List.take_of_length_le (by rw [unhex_len n s hs]; exact Nat.le_refl _)]; simp
end Go.Proofs.YtcdcmohccbhchaaGreatDoor

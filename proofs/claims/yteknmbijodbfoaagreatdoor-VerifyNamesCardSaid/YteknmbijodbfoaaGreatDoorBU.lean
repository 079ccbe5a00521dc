/- Plain lists of bytes: what utf8.measure, value and Decode, and the reference's Begins and First, compute; that the reference's First is Decode. No program in sight. Plain lists of bytes: the reference's First is Decode; what Decode gives, byte by byte. No program in sight. The contracts of utf8.length and utf8.continues: what each returns, for every byte and index; the world is as it was. The contract of utf8.measure: for every string, how far its first bytes go on and whether they are an encoding; nothing that was there turns. The contract of utf8.value: the code point of one to four bytes; the world is as it was. The contracts of utf8.Decode, Check and Valid. Plain lists of bytes: all code points up to the first error, their offsets, the error and its offset. No program in sight. The contracts of utf8.Check and utf8.Valid, and of 'short'. The contracts of utf8.Runes and of the iterator that it returns. The contracts of utf8.isControl, the reference's Control, and utf8.Printable. -/
import Derived.Test.YteknmbijodbfoaaGreatDoorBA
import Derived.WalkKit
import Derived.Outline
import Derived.Lib.Hide
import Derived.WalkSpells
import Derived.Deep.QuietTactic
import Derived.BigQuiet
import Derived.WalkLawsBesides
import Derived.Laws.BitsLemmas
import Derived.RangeFuncNested
import Derived.RangeFuncBound
import Derived.RangeFuncCalls
import Derived.RangeFuncLeaves
import Derived.RangeFuncWrites
import Derived.RangeFuncBox
import Derived.Shelf.Abstract
import Derived.Shelf.RegionOpen
import Derived.OwnWalkIn
import Derived.TacticsInMore
import Derived.LoopNIn
import Derived.LoopIn
namespace Go.Proofs.YteknmbijodbfoaaGreatDoor

/-- The number of bytes of the encodings that begin with a byte. -/
def lenZ (c : Int) : Int := if c ≤ 127 then 1 else if c < 194 then 0 else if c ≤ 223 then 2 else if c ≤ 239 then 3 else if c ≤ 244 then 4 else 0

/-- May byte c stand at index i behind the first byte f? -/
def contB (f i c : Int) : Bool :=
  decide ((if i = 1 then (if f = 224 then 160 else if f = 240 then 144 else 128) else 128) ≤ c) && decide (c ≤ (if i = 1 then (if f = 237 then 159 else if f = 244 then 143 else 191) else 191))

def bz (c : UInt8) : Int := (c.toNat : Int)
theorem bz_lo (c : UInt8) : 0 ≤ bz c := by unfold bz; omega
theorem bz_hi (c : UInt8) : bz c ≤ 255 := by unfold bz; have := c.toNat_lt; omega

/-- How far the bytes go on, from index i. -/
def goOn (f size : Int) : Nat → List UInt8 → Nat
  | i, [] => i
  | i, c :: t => if (decide ((i : Int) < size) && contB f i (bz c)) = true then goOn f size (i + 1) t else i

def measN : List UInt8 → Nat
  | [] => 0
  | a :: t => if lenZ (bz a) = 0 then 0 else goOn (bz a) (lenZ (bz a)) 1 t
def measB : List UInt8 → Bool
  | [] => false
  | a :: t => if lenZ (bz a) = 0 then false else decide ((goOn (bz a) (lenZ (bz a)) 1 t : Int) = lenZ (bz a))

def valFold (r : Int) (l : List UInt8) : Int := l.foldl (fun r c => 64 * r + bz c % 64) r
def val : List UInt8 → Int
  | [] => 0
  | [a] => bz a
  | a :: b :: t => valFold (bz a % (if t.length = 0 then 32 else if t.length = 1 then 16 else 8)) (b :: t)

def decRU (l : List UInt8) : Int := if measB l then val (l.take (measN l)) else 0
def decN (l : List UInt8) : Nat := if measB l then measN l else 0
def decEU (l : List UInt8) : Int := if l = [] then 1 else if measB l then 0 else if measN l = 0 then 6 else if measN l = l.length then 23 else 3

/-! the reference -/
def leadN (c : Int) : Int := if c < 128 then 1 else if c < 192 then 0 else if c < 224 then 2 else if c < 240 then 3 else if c < 248 then 4 else 0
def leadV (c : Int) : Int := if c < 128 then c else if c < 192 then 0 else if c < 224 then c - 192 else if c < 240 then c - 224 else if c < 248 then c - 240 else 0
def leastZ (n : Int) : Int := if n = 2 then 128 else if n = 3 then 2048 else if n = 4 then 65536 else 0
def mostZ (n : Int) : Int := if n = 1 then 127 else if n = 2 then 2047 else if n = 3 then 65535 else if n = 4 then 1114111 else 0
def conts (l : List UInt8) : Bool := l.all fun c => decide (128 ≤ bz c) && decide (bz c ≤ 191)
def refV (v : Int) (l : List UInt8) : Int := l.foldl (fun v c => 64 * v + bz c - 128) v
def lowTo : Nat → Int → Int
  | 0, v => v
  | k + 1, v => lowTo k (64 * v)
def highTo : Nat → Int → Int
  | 0, v => v
  | k + 1, v => highTo k (64 * v + 63)
def rangeB (n low high : Int) : Bool :=
  !((decide (55296 ≤ max low (leastZ n)) && decide (min high (mostZ n) ≤ 57343)) || decide (min high (mostZ n) < max low (leastZ n)))
def begB : List UInt8 → Bool
  | [] => false
  | a :: t => if leadN (bz a) = 0 ∨ leadN (bz a) < ((a :: t).length : Int) then false else
      if conts t then rangeB (leadN (bz a)) (lowTo (leadN (bz a) - ((a :: t).length : Int)).toNat (refV (leadV (bz a)) t)) (highTo (leadN (bz a) - ((a :: t).length : Int)).toNat (refV (leadV (bz a)) t)) else false
def begN (l : List UInt8) : Int := if begB l then (match l with | [] => 0 | a :: _ => leadN (bz a)) else 0
def begV (l : List UInt8) : Int := if begB l then (match l with | [] => 0 | a :: t => refV (leadV (bz a)) t) else 0

/-- The classes of first bytes. -/
theorem cls (x : Int) (h0 : 0 ≤ x) (h1 : x ≤ 255) :
    (x ≤ 127 ∧ leadN x = 1 ∧ leadV x = x ∧ lenZ x = 1) ∨ (128 ≤ x ∧ x ≤ 191 ∧ leadN x = 0 ∧ leadV x = 0 ∧ lenZ x = 0) ∨ (192 ≤ x ∧ x ≤ 193 ∧ leadN x = 2 ∧ leadV x = x - 192 ∧ lenZ x = 0) ∨
    (194 ≤ x ∧ x ≤ 223 ∧ leadN x = 2 ∧ leadV x = x - 192 ∧ lenZ x = 2) ∨ (224 ≤ x ∧ x ≤ 239 ∧ leadN x = 3 ∧ leadV x = x - 224 ∧ lenZ x = 3) ∨ (240 ≤ x ∧ x ≤ 244 ∧ leadN x = 4 ∧ leadV x = x - 240 ∧ lenZ x = 4) ∨
    (245 ≤ x ∧ x ≤ 247 ∧ leadN x = 4 ∧ leadV x = x - 240 ∧ lenZ x = 0) ∨ (248 ≤ x ∧ leadN x = 0 ∧ leadV x = 0 ∧ lenZ x = 0) := by
  have hh : x ≤ 127 ∨ (128 ≤ x ∧ x ≤ 191) ∨ (192 ≤ x ∧ x ≤ 193) ∨ (194 ≤ x ∧ x ≤ 223) ∨ (224 ≤ x ∧ x ≤ 239) ∨ (240 ≤ x ∧ x ≤ 244) ∨ (245 ≤ x ∧ x ≤ 247) ∨ 248 ≤ x := by omega
  have e1 : leadN x = if x < 128 then 1 else if x < 192 then 0 else if x < 224 then 2 else if x < 240 then 3 else if x < 248 then 4 else 0 := rfl
  have e2 : leadV x = if x < 128 then x else if x < 192 then 0 else if x < 224 then x - 192 else if x < 240 then x - 224 else if x < 248 then x - 240 else 0 := rfl
  have e3 : lenZ x = if x ≤ 127 then 1 else if x < 194 then 0 else if x ≤ 223 then 2 else if x ≤ 239 then 3 else if x ≤ 244 then 4 else 0 := rfl
  rcases hh with h | h | h | h | h | h | h | h
  · left; refine ⟨h, ?_, ?_, ?_⟩ <;> omega
  · right; left; refine ⟨h.1, h.2, ?_, ?_, ?_⟩ <;> omega
  · right; right; left; refine ⟨h.1, h.2, ?_, ?_, ?_⟩ <;> omega
  · right; right; right; left; refine ⟨h.1, h.2, ?_, ?_, ?_⟩ <;> omega
  · right; right; right; right; left; refine ⟨h.1, h.2, ?_, ?_, ?_⟩ <;> omega
  · right; right; right; right; right; left; refine ⟨h.1, h.2, ?_, ?_, ?_⟩ <;> omega
  · right; right; right; right; right; right; left; refine ⟨h.1, h.2, ?_, ?_, ?_⟩ <;> omega
  · right; right; right; right; right; right; right; refine ⟨h, ?_, ?_, ?_⟩ <;> omega

theorem contB_iff (f i c : Int) : contB f i c = true ↔ ((i = 1 ∧ f = 224 → 160 ≤ c) ∧ (i = 1 ∧ f = 240 → 144 ≤ c) ∧ 128 ≤ c ∧ (i = 1 ∧ f = 237 → c ≤ 159) ∧ (i = 1 ∧ f = 244 → c ≤ 143) ∧ c ≤ 191) := by
  unfold contB
  simp only [Bool.and_eq_true, decide_eq_true_eq]
  repeat' split
  all_goals omega

theorem rangeB_iff (n low high : Int) : rangeB n low high = true ↔ ¬ ((55296 ≤ max low (leastZ n) ∧ min high (mostZ n) ≤ 57343) ∨ min high (mostZ n) < max low (leastZ n)) := by
  unfold rangeB
  simp only [Bool.not_eq_true', Bool.or_eq_false_iff, Bool.and_eq_false_iff, decide_eq_false_iff_not]
  omega
theorem least2 : leastZ 2 = 128 := rfl
theorem least1 : leastZ 1 = 0 := rfl
theorem least3 : leastZ 3 = 2048 := rfl
theorem least4 : leastZ 4 = 65536 := rfl
theorem most1 : mostZ 1 = 127 := rfl
theorem most2 : mostZ 2 = 2047 := rfl
theorem most3 : mostZ 3 = 65535 := rfl
theorem most4 : mostZ 4 = 1114111 := rfl

theorem beg1 (a : UInt8) : begB [a] = true ↔ lenZ (bz a) ≠ 0 := by
  have h0 := bz_lo a; have h1 := bz_hi a
  simp only [begB, conts, List.all_nil, refV, List.foldl_nil, List.length_cons, List.length_nil, if_true]
  rcases cls (bz a) h0 h1 with h | h | h | h | h | h | h | h <;>
    (generalize bz a = x at *; obtain ⟨g, g1⟩ := h; simp only [g1]; simp [rangeB_iff, lowTo, highTo, least1, least2, least3, least4, most1, most2, most3, most4]) <;> omega

theorem beg2 (a b : UInt8) : begB [a, b] = true ↔ 2 ≤ lenZ (bz a) ∧ contB (bz a) 1 (bz b) = true := by
  have h0 := bz_lo a; have h1 := bz_hi a
  have h2 := bz_lo b; have h3 := bz_hi b
  rw [contB_iff]
  simp only [begB, conts, List.all_cons, List.all_nil, refV, List.foldl_cons, List.foldl_nil, List.length_cons, List.length_nil, Bool.and_true]
  by_cases hb : 128 ≤ bz b ∧ bz b ≤ 191
  · obtain ⟨hb1, hb2⟩ := hb
    rcases cls (bz a) h0 h1 with h | h | h | h | h | h | h | h <;>
      (generalize bz a = x at *; generalize bz b = y at *; obtain ⟨g, g1⟩ := h; simp only [g1]; simp [rangeB_iff, lowTo, highTo, least2, least3, least4, most2, most3, most4, hb1, hb2]) <;> omega
  · have hb' : (decide (128 ≤ bz b) && decide (bz b ≤ 191)) = false := by
      rw [Bool.eq_false_iff]; simp only [ne_eq, Bool.and_eq_true, decide_eq_true_eq]; exact hb
    rw [hb']
    simp; omega

theorem beg3 (a b c : UInt8) : begB [a, b, c] = true ↔ 3 ≤ lenZ (bz a) ∧ contB (bz a) 1 (bz b) = true ∧ contB (bz a) 2 (bz c) = true := by
  have h0 := bz_lo a; have h1 := bz_hi a
  have h2 := bz_lo b; have h3 := bz_hi b
  have h4 := bz_lo c; have h5 := bz_hi c
  rw [contB_iff, contB_iff]
  simp only [begB, conts, List.all_cons, List.all_nil, refV, List.foldl_cons, List.foldl_nil, List.length_cons, List.length_nil, Bool.and_true]
  by_cases hb : (128 ≤ bz b ∧ bz b ≤ 191) ∧ (128 ≤ bz c ∧ bz c ≤ 191)
  · obtain ⟨⟨hb1, hb2⟩, hc1, hc2⟩ := hb
    rcases cls (bz a) h0 h1 with h | h | h | h | h | h | h | h <;>
      (generalize bz a = x at *; generalize bz b = y at *; generalize bz c = z at *; obtain ⟨g, g1⟩ := h; simp only [g1]; simp [rangeB_iff, lowTo, highTo, least3, least4, most3, most4, hb1, hb2, hc1, hc2]) <;> omega
  · have hb' : (decide (128 ≤ bz b) && decide (bz b ≤ 191) && (decide (128 ≤ bz c) && decide (bz c ≤ 191))) = false := by
      rw [Bool.eq_false_iff]; simp only [ne_eq, Bool.and_eq_true, decide_eq_true_eq]; exact hb
    rw [hb']
    simp; omega

theorem beg4 (a b c d : UInt8) : begB [a, b, c, d] = true ↔ 4 ≤ lenZ (bz a) ∧ contB (bz a) 1 (bz b) = true ∧ contB (bz a) 2 (bz c) = true ∧ contB (bz a) 3 (bz d) = true := by
  have h0 := bz_lo a; have h1 := bz_hi a
  have h2 := bz_lo b; have h3 := bz_hi b
  have h4 := bz_lo c; have h5 := bz_hi c
  have h6 := bz_lo d; have h7 := bz_hi d
  rw [contB_iff, contB_iff, contB_iff]
  simp only [begB, conts, List.all_cons, List.all_nil, refV, List.foldl_cons, List.foldl_nil, List.length_cons, List.length_nil, Bool.and_true]
  by_cases hb : (128 ≤ bz b ∧ bz b ≤ 191) ∧ (128 ≤ bz c ∧ bz c ≤ 191) ∧ (128 ≤ bz d ∧ bz d ≤ 191)
  · obtain ⟨⟨hb1, hb2⟩, ⟨hc1, hc2⟩, hd1, hd2⟩ := hb
    rcases cls (bz a) h0 h1 with h | h | h | h | h | h | h | h <;>
      (generalize bz a = x at *; generalize bz b = y at *; generalize bz c = z at *; generalize bz d = u at *; obtain ⟨g, g1⟩ := h; simp only [g1]; simp [rangeB_iff, lowTo, highTo, least4, most4, hb1, hb2, hc1, hc2, hd1, hd2]) <;> omega
  · have hb' : (decide (128 ≤ bz b) && decide (bz b ≤ 191) && (decide (128 ≤ bz c) && decide (bz c ≤ 191) && (decide (128 ≤ bz d) && decide (bz d ≤ 191)))) = false := by
      rw [Bool.eq_false_iff]; simp only [ne_eq, Bool.and_eq_true, decide_eq_true_eq]; exact hb
    rw [hb']
    simp; omega
end Go.Proofs.YteknmbijodbfoaaGreatDoor

namespace Go.Proofs.YteknmbijodbfoaaGreatDoor

def firE (l : List UInt8) : Int :=
  if begB (l.take 1) then (if begN (l.take 1) ≤ l.length then (if begB (l.take (begN (l.take 1)).toNat) then 0 else 3) else if begB l then 23 else 3) else 6
def firN (l : List UInt8) : Int :=
  if begB (l.take 1) then (if begN (l.take 1) ≤ l.length then (if begB (l.take (begN (l.take 1)).toNat) then begN (l.take 1) else 0) else 0) else 0
def firR (l : List UInt8) : Int :=
  if begB (l.take 1) then (if begN (l.take 1) ≤ l.length then (if begB (l.take (begN (l.take 1)).toNat) then begV (l.take (begN (l.take 1)).toNat) else 0) else 0) else 0

theorem lead_len (x : Int) (h0 : 0 ≤ x) (h1 : x ≤ 255) (h : lenZ x ≠ 0) : leadN x = lenZ x := by
  rcases cls x h0 h1 with h | h | h | h | h | h | h | h <;> omega
theorem len_vals (x : Int) : lenZ x = 0 ∨ lenZ x = 1 ∨ lenZ x = 2 ∨ lenZ x = 3 ∨ lenZ x = 4 := by
  unfold lenZ; repeat' split
  all_goals omega

theorem goOn_nil (f size : Int) (i : Nat) : goOn f size i [] = i := by simp [goOn]
theorem goOn_yes (f size : Int) (i : Nat) (c : UInt8) (t : List UInt8) (h1 : (i : Int) < size) (h2 : contB f i (bz c) = true) : goOn f size i (c :: t) = goOn f size (i + 1) t := by
  simp [goOn, h1, h2]
theorem goOn_no (f size : Int) (i : Nat) (c : UInt8) (t : List UInt8) (h2 : contB f i (bz c) = false) : goOn f size i (c :: t) = i := by
  simp [goOn, h2]
theorem goOn_full (f size : Int) (i : Nat) (l : List UInt8) (h1 : ¬ (i : Int) < size) : goOn f size i l = i := by
  cases l <;> simp [goOn, h1]
theorem goOn_ge (f size : Int) : ∀ (l : List UInt8) (i : Nat), i ≤ goOn f size i l
  | [], i => by simp [goOn]
  | c :: t, i => by
    simp only [goOn]
    split
    · have := goOn_ge f size t (i + 1); omega
    · omega
theorem goOn_le (f size : Int) : ∀ (l : List UInt8) (i : Nat), goOn f size i l ≤ i + l.length
  | [], i => by simp [goOn]
  | c :: t, i => by
    simp only [goOn, List.length_cons]
    split
    · have := goOn_le f size t (i + 1); omega
    · omega
theorem goOn_size (f size : Int) : ∀ (l : List UInt8) (i : Nat), (i : Int) ≤ size → (goOn f size i l : Int) ≤ size
  | [], i, h => by simpa [goOn] using h
  | c :: t, i, h => by
    simp only [goOn]
    split
    · rename_i g
      simp only [Bool.and_eq_true, decide_eq_true_eq] at g
      exact goOn_size f size t (i + 1) (by omega)
    · exact h

theorem measN_le (l : List UInt8) : measN l ≤ l.length := by
  cases l with
  | nil => simp [measN]
  | cons a t =>
    simp only [measN, List.length_cons]
    split
    · omega
    · have := goOn_le (bz a) (lenZ (bz a)) t 1; omega
theorem measN_pos (l : List UInt8) (h : measB l = true) : 1 ≤ measN l := by
  cases l with
  | nil => simp [measB] at h
  | cons a t =>
    simp only [measN, measB] at *
    split
    · rename_i g; simp [g] at h
    · exact goOn_ge _ _ _ _
theorem measN_le4 (l : List UInt8) : measN l ≤ 4 := by
  cases l with
  | nil => simp [measN]
  | cons a t =>
    simp only [measN]
    split
    · omega
    · rename_i g
      have h := goOn_size (bz a) (lenZ (bz a)) t 1 (by have := len_vals (bz a); omega)
      have := len_vals (bz a)
      omega

/-- The reference's answers at the first byte. -/
theorem begN1 (a : UInt8) : begN [a] = lenZ (bz a) := by
  unfold begN
  by_cases h : lenZ (bz a) = 0
  · rw [if_neg (by rw [beg1]; simpa using h), h]
  · rw [if_pos (by rw [beg1]; exact h)]
    exact lead_len _ (bz_lo a) (bz_hi a) h

theorem begV1 (a : UInt8) (h : lenZ (bz a) = 1) : begV [a] = bz a := by
  unfold begV
  rw [if_pos (by rw [beg1]; omega)]
  simp only [refV, List.foldl_nil]
  have h0 := bz_lo a; have h1 := bz_hi a
  rcases cls (bz a) h0 h1 with h | h | h | h | h | h | h | h <;> omega

theorem begV2 (a b : UInt8) (h : lenZ (bz a) = 2) (hb : contB (bz a) 1 (bz b) = true) : begV [a, b] = val [a, b] := by
  unfold begV
  rw [if_pos (by rw [beg2]; exact ⟨by omega, hb⟩)]
  rw [contB_iff] at hb
  have h0 := bz_lo a; have h1 := bz_hi a
  simp only [refV, List.foldl_nil, List.foldl_cons, val, valFold, List.length_nil]
  rcases cls (bz a) h0 h1 with h | h | h | h | h | h | h | h <;> simp <;> omega
theorem begV3 (a b c : UInt8) (h : lenZ (bz a) = 3) (hb : contB (bz a) 1 (bz b) = true) (hc : contB (bz a) 2 (bz c) = true) : begV [a, b, c] = val [a, b, c] := by
  unfold begV
  rw [if_pos (by rw [beg3]; exact ⟨by omega, hb, hc⟩)]
  rw [contB_iff] at hb hc
  have h0 := bz_lo a; have h1 := bz_hi a
  simp only [refV, List.foldl_nil, List.foldl_cons, val, valFold, List.length_nil, List.length_cons]
  rcases cls (bz a) h0 h1 with h | h | h | h | h | h | h | h <;> simp <;> omega
theorem begV4 (a b c d : UInt8) (h : lenZ (bz a) = 4) (hb : contB (bz a) 1 (bz b) = true) (hc : contB (bz a) 2 (bz c) = true) (hd : contB (bz a) 3 (bz d) = true) : begV [a, b, c, d] = val [a, b, c, d] := by
  unfold begV
  rw [if_pos (by rw [beg4]; exact ⟨by omega, hb, hc, hd⟩)]
  rw [contB_iff] at hb hc hd
  have h0 := bz_lo a; have h1 := bz_hi a
  simp only [refV, List.foldl_nil, List.foldl_cons, val, valFold, List.length_nil, List.length_cons]
  rcases cls (bz a) h0 h1 with h | h | h | h | h | h | h | h <;> simp <;> omega

/-- How long the lists of the reference's tests are asked for, against 'measN'. -/
theorem beg_take (a : UInt8) (t : List UInt8) (k : Nat) (h1 : 1 ≤ k) (h2 : k ≤ t.length + 1) (h4 : k ≤ 4) : begB ((a :: t).take k) = true ↔ k ≤ measN (a :: t) := by
  have hle : ∀ (l : List UInt8) (i : Nat), i ≤ goOn (bz a) (lenZ (bz a)) i l := fun l i => goOn_ge _ _ l i
  by_cases hz : lenZ (bz a) = 0
  · have e : measN (a :: t) = 0 := by simp [measN, hz]
    rw [e]
    constructor
    · intro h
      exfalso
      rcases (show k = 1 ∨ k = 2 ∨ k = 3 ∨ k = 4 by omega) with rfl | rfl | rfl | rfl
      · rw [show (a :: t).take 1 = [a] from rfl, beg1] at h; exact h hz
      · rcases t with _ | ⟨b, t⟩
        · simp at h2
        rw [show (a :: b :: t).take 2 = [a, b] from rfl, beg2] at h; omega
      · rcases t with _ | ⟨b, _ | ⟨c, t⟩⟩
        · simp at h2
        · simp at h2
        rw [show (a :: b :: c :: t).take 3 = [a, b, c] from rfl, beg3] at h; omega
      · rcases t with _ | ⟨b, _ | ⟨c, _ | ⟨d, t⟩⟩⟩
        · simp at h2
        · simp at h2
        · simp at h2
        rw [show (a :: b :: c :: d :: t).take 4 = [a, b, c, d] from rfl, beg4] at h; omega
    · intro h; omega
  · have e : measN (a :: t) = goOn (bz a) (lenZ (bz a)) 1 t := by simp [measN, hz]
    have hv := len_vals (bz a)
    rw [e]
    rcases (show k = 1 ∨ k = 2 ∨ k = 3 ∨ k = 4 by omega) with rfl | rfl | rfl | rfl
    · rw [show (a :: t).take 1 = [a] from rfl, beg1]; exact ⟨fun _ => hle _ _, fun _ => hz⟩
    · rcases t with _ | ⟨b, t⟩
      · simp at h2
      rw [show (a :: b :: t).take 2 = [a, b] from rfl, beg2]
      by_cases hs : (1 : Int) < lenZ (bz a)
      · cases hb : contB (bz a) 1 (bz b) with
        | false => rw [goOn_no _ _ _ _ _ (by simpa using hb)]; simp
        | true => rw [goOn_yes _ _ _ _ _ (by simpa using hs) (by simpa using hb)]; have := hle t 2; simp; omega
      · rw [goOn_full _ _ _ _ (by simpa using hs)]; omega
    · rcases t with _ | ⟨b, _ | ⟨c, t⟩⟩
      · simp at h2
      · simp at h2
      rw [show (a :: b :: c :: t).take 3 = [a, b, c] from rfl, beg3]
      by_cases hs : (1 : Int) < lenZ (bz a)
      · cases hb : contB (bz a) 1 (bz b) with
        | false => rw [goOn_no _ _ _ _ _ (by simpa using hb)]; simp
        | true =>
          rw [goOn_yes _ _ _ _ _ (by simpa using hs) (by simpa using hb)]
          by_cases hs2 : (2 : Int) < lenZ (bz a)
          · cases hc : contB (bz a) 2 (bz c) with
            | false => rw [goOn_no _ _ _ _ _ (by simpa using hc)]; simp
            | true => rw [goOn_yes _ _ _ _ _ (by simpa using hs2) (by simpa using hc)]; have := hle t 3; simp; omega
          · rw [goOn_full _ _ _ _ (by simpa using hs2)]; simp; omega
      · rw [goOn_full _ _ _ _ (by simpa using hs)]; omega
    · rcases t with _ | ⟨b, _ | ⟨c, _ | ⟨d, t⟩⟩⟩
      · simp at h2
      · simp at h2
      · simp at h2
      rw [show (a :: b :: c :: d :: t).take 4 = [a, b, c, d] from rfl, beg4]
      by_cases hs : (1 : Int) < lenZ (bz a)
      · cases hb : contB (bz a) 1 (bz b) with
        | false => rw [goOn_no _ _ _ _ _ (by simpa using hb)]; simp
        | true =>
          rw [goOn_yes _ _ _ _ _ (by simpa using hs) (by simpa using hb)]
          by_cases hs2 : (2 : Int) < lenZ (bz a)
          · cases hc : contB (bz a) 2 (bz c) with
            | false => rw [goOn_no _ _ _ _ _ (by simpa using hc)]; simp
            | true =>
              rw [goOn_yes _ _ _ _ _ (by simpa using hs2) (by simpa using hc)]
              by_cases hs3 : (3 : Int) < lenZ (bz a)
              · cases hd : contB (bz a) 3 (bz d) with
                | false => rw [goOn_no _ _ _ _ _ (by simpa using hd)]; simp
                | true => rw [goOn_yes _ _ _ _ _ (by simpa using hs3) (by simpa using hd)]; have := hle t 4; simp; omega
              · rw [goOn_full _ _ _ _ (by simpa using hs3)]; simp; omega
          · rw [goOn_full _ _ _ _ (by simpa using hs2)]; simp; omega
      · rw [goOn_full _ _ _ _ (by simpa using hs)]; omega

theorem measB_cons (a : UInt8) (t : List UInt8) : measB (a :: t) = true ↔ lenZ (bz a) ≠ 0 ∧ (measN (a :: t) : Int) = lenZ (bz a) := by
  by_cases hz : lenZ (bz a) = 0 <;> simp [measB, measN, hz]

/-- The value of a whole encoding. -/
theorem beg_val (a : UInt8) (t : List UInt8) (h : measB (a :: t) = true) : begV ((a :: t).take (measN (a :: t))) = val ((a :: t).take (measN (a :: t))) := by
  have hb : begB ((a :: t).take (measN (a :: t))) = true := (beg_take a t _ (measN_pos _ h) (measN_le _) (measN_le4 _)).2 (Nat.le_refl _)
  rw [measB_cons] at h
  obtain ⟨hz, hn⟩ := h
  have hle := measN_le (a :: t)
  have h4 := measN_le4 (a :: t)
  generalize measN (a :: t) = k at *
  rcases (show k = 0 ∨ k = 1 ∨ k = 2 ∨ k = 3 ∨ k = 4 by omega) with rfl | rfl | rfl | rfl | rfl
  · simp at hn; omega
  · exact begV1 a (by simpa using hn.symm)
  · rcases t with _ | ⟨b, t⟩
    · simp at hle
    rw [show (a :: b :: t).take 2 = [a, b] from rfl] at *; exact begV2 a b (by simpa using hn.symm) ((beg2 a b).1 hb).2
  · rcases t with _ | ⟨b, _ | ⟨c, t⟩⟩
    · simp at hle
    · simp at hle
    rw [show (a :: b :: c :: t).take 3 = [a, b, c] from rfl] at *; exact begV3 a b c (by simpa using hn.symm) ((beg3 a b c).1 hb).2.1 ((beg3 a b c).1 hb).2.2
  · rcases t with _ | ⟨b, _ | ⟨c, _ | ⟨d, t⟩⟩⟩
    · simp at hle
    · simp at hle
    · simp at hle
    rw [show (a :: b :: c :: d :: t).take 4 = [a, b, c, d] from rfl] at *; exact begV4 a b c d (by simpa using hn.symm) ((beg4 a b c d).1 hb).2.1 ((beg4 a b c d).1 hb).2.2.1 ((beg4 a b c d).1 hb).2.2.2

theorem first_dec (l : List UInt8) (hl : l ≠ []) : firE l = decEU l ∧ firN l = decN l ∧ firR l = decRU l := by
  match l, hl with
  | a :: t, _ =>
    have e1 : (a :: t).take 1 = [a] := rfl
    unfold firE firN firR decEU decN decRU
    rw [e1, begN1]
    simp only [reduceCtorEq, if_false]
    by_cases hz : lenZ (bz a) = 0
    · have hb : ¬ begB [a] = true := by rw [beg1]; simpa using hz
      have hm : ¬ measB (a :: t) = true := by rw [measB_cons]; simp [hz]
      have hn : measN (a :: t) = 0 := by simp [measN, hz]
      simp only [if_neg hb, if_neg hm, if_pos hn]
      simp
    · have hb : begB [a] = true := by rw [beg1]; exact hz
      simp only [if_pos hb]
      have hv := len_vals (bz a)
      have hpos : 1 ≤ measN (a :: t) := (beg_take a t 1 (by omega) (by omega) (by omega)).1 (by rw [e1]; exact hb)
      have hsz : (measN (a :: t) : Int) ≤ lenZ (bz a) := by
        have : measN (a :: t) = goOn (bz a) (lenZ (bz a)) 1 t := by simp [measN, hz]
        rw [this]; exact goOn_size _ _ _ _ (by omega)
      have h0 : ¬ measN (a :: t) = 0 := by omega
      simp only [if_neg h0]
      by_cases hc : lenZ (bz a) ≤ ((a :: t).length : Int)
      · have hk := beg_take a t (lenZ (bz a)).toNat (by omega) (by simp at hc; omega) (by omega)
        simp only [if_pos hc]
        by_cases hw : measB (a :: t) = true
        · have hm := (measB_cons a t).1 hw
          have ht : (lenZ (bz a)).toNat = measN (a :: t) := by omega
          have hbb : begB ((a :: t).take (lenZ (bz a)).toNat) = true := hk.2 (by omega)
          simp only [if_pos hbb, if_pos hw]
          refine ⟨trivial, hm.2.symm, ?_⟩
          rw [ht]; exact beg_val a t hw
        · have hm : ¬ (measN (a :: t) : Int) = lenZ (bz a) := fun h => hw ((measB_cons a t).2 ⟨hz, h⟩)
          have hbb : ¬ begB ((a :: t).take (lenZ (bz a)).toNat) = true := fun h => by have := hk.1 h; omega
          have hne : ¬ measN (a :: t) = (a :: t).length := by omega
          simp only [if_neg hbb, if_neg hw, if_neg hne]
          simp
      · have hw : ¬ measB (a :: t) = true := by
          rw [measB_cons]; have := measN_le (a :: t); simp only [List.length_cons] at *; omega
        simp only [if_neg hc, if_neg hw]
        have hk := beg_take a t (a :: t).length (by simp) (by simp) (by simp only [List.length_cons] at *; omega)
        rw [List.take_length] at hk
        have hle := measN_le (a :: t)
        by_cases hf : begB (a :: t) = true
        · have : measN (a :: t) = (a :: t).length := by have := hk.1 hf; omega
          simp only [if_pos hf, if_pos this]; simp
        · have : ¬ measN (a :: t) = (a :: t).length := fun h => hf (hk.2 (by omega))
          simp only [if_neg hf, if_neg this]; simp
end Go.Proofs.YteknmbijodbfoaaGreatDoor

namespace Go.Proofs.YteknmbijodbfoaaGreatDoor
open Go.RowKit
theorem bl_get (s : ByteArray) (k : Nat) (h : k < s.size) : (bl s)[k]'(by rw [bl_length]; exact h) = s[k] := rfl
theorem bl_drop (s : ByteArray) (k : Nat) (h : k < s.size) : (bl s).drop k = s[k] :: (bl s).drop (k + 1) := by
  rw [List.drop_eq_getElem_cons (by rw [bl_length]; exact h)]; rfl
theorem bl_mk (l : List UInt8) : bl ⟨l.toArray⟩ = l := rfl
/-- A function with four results. -/
theorem four_results {fn : Func} {t u v x : Tmp} (h : fn.results = #[.tmp t, .tmp u, .tmp v, .tmp x]) (tmps : Array Value) (P : Program) (w : World) :
    (results fn tmps).run P w = .ok (.tuple #[tmps.getD t undef, tmps.getD u undef, tmps.getD v undef, tmps.getD x undef]) w := by simp [results, h]



set_option maxHeartbeats 400000 in
theorem length_any (c : Int) (w : World) (h0 : 0 ≤ c) (h1 : c ≤ 255) :
    Calls Tryz.prog 193 #[.int .u8 c] w fun e w' => e = .returned (.int .i64 (lenZ c)) ∧ w = w' := by
  go_enter Tryz.func193, Tryz.ntmps193
  go_wp2
  all_goals
    go_ret
    refine ⟨ret_int ?_, rfl⟩
    unfold lenZ
    repeat' split
    all_goals (try omega)


set_option maxHeartbeats 400000 in
theorem continues_any (f i c : Int) (w : World) (_h0 : 0 ≤ f) (_h1 : f ≤ 255) (h2 : 0 ≤ c) (h3 : c ≤ 255) :
    Calls Tryz.prog 194 #[.int .u8 f, .int .i64 i, .int .u8 c] w fun e w' => e = .returned (.bool (contB f i c)) ∧ w = w' := by
  go_enter Tryz.func194, Tryz.ntmps194
  go_wp2
  all_goals
    go_ret
    refine ⟨congrArg (fun b => Ending.returned (.bool b)) ?_, rfl⟩
    simp only [beq_iff_eq, beq_eq_false_iff_ne, ne_eq] at *
    unfold contB
    rw [Bool.eq_iff_iff]
    simp only [Bool.and_eq_true, decide_eq_true_eq]
    repeat' split
    all_goals (try simp)
    all_goals (try omega)
end Go.Proofs.YteknmbijodbfoaaGreatDoor

namespace Go.Proofs.YteknmbijodbfoaaGreatDoor
open Go.RowKit
theorem ret_nb {k : IntKind} {a b : Int} {c d : Bool} (h : a = b) (g : c = d) : Ending.returned (.tuple #[.int k a, .bool c]) = .returned (.tuple #[.int k b, .bool d]) := by rw [h, g]
set_option maxHeartbeats 400000 in
theorem measure_t (s : ByteArray) (w : World) (hs : s.size ≤ 140737488351232) (hp : 0 < s.size) (hz : (lenZ (s[0].toNat : Int) == 0) = false) (he : s.toList.isEmpty = false) (hl0 : 1 ≤ lenZ (s[0].toNat : Int)) (_hl1 : lenZ (s[0].toNat : Int) ≤ 4)
   (N : Nat) (hN : Hid (goOn s[0].toNat (lenZ s[0].toNat) 1 ((bl s).drop 1) = N)) :
    Calls Tryz.prog 174 #[.string s] w fun e w' => e = .returned (.tuple #[.int .i64 N, .bool (decide ((N : Int) = lenZ s[0].toNat))]) ∧ Gr w w' := by
  have b0 : (s[0].toNat : Int) ≤ 255 := by have := s[0].toNat_lt; omega
  have he2 : ¬ s.toList = [] := by simpa using he
  go_enter Tryz.func174, Tryz.ntmps174
  go_wp2_with (go_at_call 193; refine (length_any _ _ (by omega) (by omega)).mono ?_; rintro e w' ⟨rfl, rfl⟩)
  go_loopw [2] (fun n wr => ∃ k : Nat, 1 ≤ k ∧ k ≤ s.size ∧ (k : Int) ≤ lenZ (s[0].toNat : Int) ∧ n = .int .i64 k ∧ Hid (goOn s[0].toNat (lenZ s[0].toNat) k ((bl s).drop k) = N) ∧ Gr w wr) (fun n _ => s.size - (intOf n).toNat)
  case atStart => exact ⟨1, by omega, by omega, hl0, rfl, hN, Gr.refl _⟩
  case round =>
    obtain ⟨k, hk1, hk2, hk3, rfl, hk4, hgr⟩ := hrel
    clear hN
    by_cases c1 : (k : Int) < lenZ (s[0].toNat : Int)
    · by_cases c2 : k < s.size
      · have b1 : (s[k].toNat : Int) ≤ 255 := by have := s[k].toNat_lt; omega
        cases hc : contB (s[0].toNat : Int) k (s[k].toNat : Int) with
        | true =>
          have HS : Hid (goOn s[0].toNat (lenZ s[0].toNat) (k + 1) ((bl s).drop (k + 1)) = N) := by
            have := hk4.out; rw [bl_drop s k c2, goOn_yes _ _ _ _ _ c1 hc] at this; exact this
          clear hk4
          go_wp2_with fail
          go_quiet ((go_at_call 194; exact still_call (continues_any _ _ _ _ (by omega) (by omega) (by omega) (by omega))))
          go_wp2
          go_roundw
          case rel => exact ⟨k + 1, by omega, by omega, by omega, by go_num, HS, hgr.drewN _⟩
          case measure => simp [intOf]; omega
        | false =>
          have HS : Hid (k = N) := by
            have := hk4.out; rw [bl_drop s k c2, goOn_no _ _ _ _ _ hc] at this; exact this
          clear hk4
          go_wp2_with fail
          go_quiet ((go_at_call 194; exact still_call (continues_any _ _ _ _ (by omega) (by omega) (by omega) (by omega))))
          go_wp2
          go_ret2
          have := HS.out
          subst this
          exact ⟨ret_nb rfl (by rw [Bool.eq_iff_iff]; simp), hgr.drewN _⟩
      · have HS : Hid (k = N) := by
          have := hk4.out; rw [List.drop_of_length_le (by rw [bl_length]; omega), goOn_nil] at this; exact this
        clear hk4
        have d2 : decide (k < s.size) = false := by simpa using c2
        go_wp2_with fail
        go_quiet (fail)
        go_wp2
        go_ret2
        have := HS.out
        subst this
        exact ⟨ret_nb rfl (by rw [Bool.eq_iff_iff]; simp), hgr.drewN _⟩
    · have HS : Hid (k = N) := by
        have := hk4.out; rw [goOn_full _ _ _ _ c1] at this; exact this
      clear hk4
      have d2 : decide ((k : Int) < lenZ (s[0].toNat : Int)) = false := by simpa using c1
      go_wp2_with fail
      go_quiet (fail)
      go_wp2
      go_ret2
      have := HS.out
      subst this
      exact ⟨ret_nb rfl (by rw [Bool.eq_iff_iff]; simp), hgr.drewN _⟩
set_option maxHeartbeats 400000 in
theorem measure_z (s : ByteArray) (w : World) (_hs : s.size ≤ 140737488351232) (hp : 0 < s.size) (hz : (lenZ (s[0].toNat : Int) == 0) = true) (he : s.toList.isEmpty = false) :
    Calls Tryz.prog 174 #[.string s] w fun e w' => e = .returned (.tuple #[.int .i64 0, .bool false]) ∧ Gr w w' := by
  have b0 : (s[0].toNat : Int) ≤ 255 := by have := s[0].toNat_lt; omega
  have he2 : ¬ s.toList = [] := by simpa using he
  go_enter Tryz.func174, Tryz.ntmps174
  go_wp2_with (go_at_call 193; refine (length_any _ _ (by omega) (by omega)).mono ?_; rintro e w' ⟨rfl, rfl⟩)
  go_ret2
  exact ⟨rfl, Gr.refl _⟩
set_option maxHeartbeats 400000 in
theorem measure_e (s : ByteArray) (w : World) (_he : s.toList.isEmpty = true) (he2 : s.toList = []) :
    Calls Tryz.prog 174 #[.string s] w fun e w' => e = .returned (.tuple #[.int .i64 0, .bool false]) ∧ Gr w w' := by
  go_enter Tryz.func174, Tryz.ntmps174
  go_wp2_with fail
  go_ret2
  exact ⟨rfl, Gr.refl _⟩

/-- utf8.measure. -/
theorem measure_any (s : ByteArray) (w : World) (hs : s.size ≤ 140737488351232) :
    Calls Tryz.prog 174 #[.string s] w fun e w' => e = .returned (.tuple #[.int .i64 (measN (bl s)), .bool (measB (bl s))]) ∧ Gr w w' := by
  by_cases hp : 0 < s.size
  · have hb : bl s = s[0] :: (bl s).drop 1 := by have := bl_drop s 0 hp; simpa using this
    have he : s.toList.isEmpty = false := by rw [bl_toList, hb]; rfl
    have hv := len_vals (bz s[0])
    by_cases hz : lenZ (bz s[0]) = 0
    · have e1 : measN (bl s) = 0 := by rw [hb]; simp [measN, hz]
      have e2 : measB (bl s) = false := by rw [hb]; simp [measB, hz]
      rw [e1, e2]
      exact measure_z s w hs hp (by simpa [bz] using hz) he
    · have e1 : measN (bl s) = goOn (bz s[0]) (lenZ (bz s[0])) 1 ((bl s).drop 1) := (congrArg measN hb).trans (by simp [measN, hz])
      have e2 : measB (bl s) = decide ((goOn (bz s[0]) (lenZ (bz s[0])) 1 ((bl s).drop 1) : Int) = lenZ (bz s[0])) := (congrArg measB hb).trans (by simp [measB, hz])
      rw [e1, e2]
      unfold bz at *
      exact measure_t s w hs hp (by simpa using hz) he (by omega) (by omega) _ rfl
  · have hb : bl s = [] := List.length_eq_zero_iff.1 (by rw [bl_length]; omega)
    have he2 : s.toList = [] := by rw [bl_toList, hb]
    rw [hb]
    exact measure_e s w (by rw [he2]; rfl) he2
end Go.Proofs.YteknmbijodbfoaaGreatDoor

namespace Go.Proofs.YteknmbijodbfoaaGreatDoor
open Go.RowKit

theorem i32_mask5 (x : Int) (h0 : 0 ≤ x) (h1 : x < 2147483648) : bits .and .i32 x 31 = x % 32 := bits_mask .i32 31 (by decide) wraps_i32 5 (by decide) x h0 h1
theorem i32_mask4 (x : Int) (h0 : 0 ≤ x) (h1 : x < 2147483648) : bits .and .i32 x 15 = x % 16 := bits_mask .i32 31 (by decide) wraps_i32 4 (by decide) x h0 h1
theorem i32_mask3 (x : Int) (h0 : 0 ≤ x) (h1 : x < 2147483648) : bits .and .i32 x 7 = x % 8 := bits_mask .i32 31 (by decide) wraps_i32 3 (by decide) x h0 h1
theorem i32_mask6 (x : Int) (h0 : 0 ≤ x) (h1 : x < 2147483648) : bits .and .i32 x 63 = x % 64 := bits_mask .i32 31 (by decide) wraps_i32 6 (by decide) x h0 h1

theorem valFold_snoc (r : Int) (s : ByteArray) (k : Nat) (h1 : 1 ≤ k) (h : k < s.size) : valFold r (((bl s).drop 1).take k) = 64 * valFold r (((bl s).drop 1).take (k - 1)) + (s[k].toNat : Int) % 64 := by
  obtain ⟨j, rfl⟩ : ∃ j, k = j + 1 := ⟨k - 1, by omega⟩
  have hl : j < ((bl s).drop 1).length := by rw [List.length_drop, bl_length]; omega
  rw [List.take_succ_eq_append_getElem hl]
  unfold valFold
  rw [List.foldl_append]
  simp only [List.foldl_cons, List.foldl_nil, Nat.add_sub_cancel]
  have e : ((bl s).drop 1)[j] = s[j + 1] := by
    simp only [List.getElem_drop, Nat.add_comm 1 j]; rfl
  rw [e]; rfl
theorem bl_one (s : ByteArray) (h : 0 < s.size) : bl s = s[0] :: (bl s).drop 1 := by have := bl_drop s 0 h; simpa using this

set_option maxHeartbeats 400000 in
theorem value_1 (s : ByteArray) (w : World) (hs : s.size = 1) :
    Calls Tryz.prog 175 #[.string s] w fun e w' => e = .returned (.int .i32 (val (bl s))) ∧ w = w' := by
  have hp : 0 < s.size := by omega
  have b0 : (s[0].toNat : Int) ≤ 255 := by have := s[0].toNat_lt; omega
  have HV : Hid (val (bl s) = (s[0].toNat : Int)) := by
    have h1 : (bl s).drop 1 = [] := List.drop_of_length_le (by rw [bl_length]; omega)
    have e := bl_one s hp; rw [h1] at e; rw [e]; rfl
  go_enter Tryz.func175, Tryz.ntmps175
  go_wp2_with fail
  go_loop [3, 4] (fun r i => i = .int .i64 1 ∧ r = .int .i32 (s[0].toNat : Int)) (fun _ _ => 0)
  case atStart => exact ⟨rfl, rfl⟩
  case round =>
    obtain ⟨rfl, rfl⟩ := hrel
    go_wp2_with fail
    go_ret
    exact ⟨ret_int HV.out.symm, rfl⟩

set_option maxHeartbeats 400000 in
theorem value_2 (s : ByteArray) (w : World) (hs : s.size = 2) :
    Calls Tryz.prog 175 #[.string s] w fun e w' => e = .returned (.int .i32 (val (bl s))) ∧ w = w' := by
  have hp : 0 < s.size := by omega
  have b0 : (s[0].toNat : Int) ≤ 255 := by have := s[0].toNat_lt; omega
  have hm := i32_mask5 (s[0].toNat : Int) (by omega) (by omega)
  have HV : Hid (val (bl s) = valFold ((s[0].toNat : Int) % 32) (((bl s).drop 1).take 1)) := by
    have h1 : ((bl s).drop 1).take 1 = (bl s).drop 1 := List.take_of_length_le (by rw [List.length_drop, bl_length]; omega)
    have h2 : ((bl s).drop 1).length = 1 := by rw [List.length_drop, bl_length]; omega
    have e := bl_one s hp
    rw [h1, show val (bl s) = val (s[0] :: (bl s).drop 1) from congrArg val e]
    generalize (bl s).drop 1 = t at *
    rcases t with _ | ⟨b, t⟩
    · simp at h2
    · have h3 : t.length = 0 := by simpa using h2
      show valFold (bz s[0] % _) _ = _
      rw [h3]; rfl
  go_enter Tryz.func175, Tryz.ntmps175
  go_wp2_with fail
  go_loop [3, 4] (fun r i => ∃ k : Nat, 1 ≤ k ∧ k ≤ 2 ∧ i = .int .i64 k ∧ ∃ v : Int, Hid (v = valFold ((s[0].toNat : Int) % 32) (((bl s).drop 1).take (k - 1))) ∧ 0 ≤ v ∧ (k ≤ 1 → v < 32) ∧ (k ≤ 2 → v < 2048) ∧ (k ≤ 3 → v < 131072) ∧ v < 8388608 ∧ r = .int .i32 v) (fun _ i => 2 - (intOf i).toNat)
  case atStart => exact ⟨1, by omega, by omega, rfl, (s[0].toNat : Int) % 32, rfl, by omega, by omega, by omega, by omega, by omega, rfl⟩
  case round =>
    obtain ⟨k, hk1, hk2, rfl, v, hv, h0, h1, h2, h3, h4, rfl⟩ := hrel
    by_cases c : k < 2
    · have c' : k < s.size := by omega
      have b1 : (s[k].toNat : Int) ≤ 255 := by have := s[k].toNat_lt; omega
      have HS : Hid (v * 64 + (s[k].toNat : Int) % 64 = valFold ((s[0].toNat : Int) % 32) (((bl s).drop 1).take k)) := by
        show _ = _
        rw [valFold_snoc _ s k hk1 c', ← hv.out]; omega
      clear hv HV
      have b2 : v < 131072 := h3 (by omega)
      go_wp2_with fail
      exact ⟨⟨k + 1, by omega, by omega, by go_num, _, HS, by omega, by omega, by omega, by omega, by omega, rfl⟩, by simp [intOf]; omega⟩
    · go_wp2_with fail
      go_ret
      refine ⟨ret_int ?_, rfl⟩
      obtain rfl : k = 2 := by omega
      rw [hv.out, HV.out]

set_option maxHeartbeats 400000 in
theorem value_3 (s : ByteArray) (w : World) (hs : s.size = 3) :
    Calls Tryz.prog 175 #[.string s] w fun e w' => e = .returned (.int .i32 (val (bl s))) ∧ w = w' := by
  have hp : 0 < s.size := by omega
  have b0 : (s[0].toNat : Int) ≤ 255 := by have := s[0].toNat_lt; omega
  have hm := i32_mask4 (s[0].toNat : Int) (by omega) (by omega)
  have HV : Hid (val (bl s) = valFold ((s[0].toNat : Int) % 16) (((bl s).drop 1).take 2)) := by
    have h1 : ((bl s).drop 1).take 2 = (bl s).drop 1 := List.take_of_length_le (by rw [List.length_drop, bl_length]; omega)
    have h2 : ((bl s).drop 1).length = 2 := by rw [List.length_drop, bl_length]; omega
    have e := bl_one s hp
    rw [h1, show val (bl s) = val (s[0] :: (bl s).drop 1) from congrArg val e]
    generalize (bl s).drop 1 = t at *
    rcases t with _ | ⟨b, t⟩
    · simp at h2
    · have h3 : t.length = 1 := by simpa using h2
      show valFold (bz s[0] % _) _ = _
      rw [h3]; rfl
  go_enter Tryz.func175, Tryz.ntmps175
  go_wp2_with fail
  go_loop [3, 4] (fun r i => ∃ k : Nat, 1 ≤ k ∧ k ≤ 3 ∧ i = .int .i64 k ∧ ∃ v : Int, Hid (v = valFold ((s[0].toNat : Int) % 16) (((bl s).drop 1).take (k - 1))) ∧ 0 ≤ v ∧ (k ≤ 1 → v < 32) ∧ (k ≤ 2 → v < 2048) ∧ (k ≤ 3 → v < 131072) ∧ v < 8388608 ∧ r = .int .i32 v) (fun _ i => 3 - (intOf i).toNat)
  case atStart => exact ⟨1, by omega, by omega, rfl, (s[0].toNat : Int) % 16, rfl, by omega, by omega, by omega, by omega, by omega, rfl⟩
  case round =>
    obtain ⟨k, hk1, hk2, rfl, v, hv, h0, h1, h2, h3, h4, rfl⟩ := hrel
    by_cases c : k < 3
    · have c' : k < s.size := by omega
      have b1 : (s[k].toNat : Int) ≤ 255 := by have := s[k].toNat_lt; omega
      have HS : Hid (v * 64 + (s[k].toNat : Int) % 64 = valFold ((s[0].toNat : Int) % 16) (((bl s).drop 1).take k)) := by
        show _ = _
        rw [valFold_snoc _ s k hk1 c', ← hv.out]; omega
      clear hv HV
      have b2 : v < 131072 := h3 (by omega)
      go_wp2_with fail
      exact ⟨⟨k + 1, by omega, by omega, by go_num, _, HS, by omega, by omega, by omega, by omega, by omega, rfl⟩, by simp [intOf]; omega⟩
    · go_wp2_with fail
      go_ret
      refine ⟨ret_int ?_, rfl⟩
      obtain rfl : k = 3 := by omega
      rw [hv.out, HV.out]

set_option maxHeartbeats 400000 in
theorem value_4 (s : ByteArray) (w : World) (hs : s.size = 4) :
    Calls Tryz.prog 175 #[.string s] w fun e w' => e = .returned (.int .i32 (val (bl s))) ∧ w = w' := by
  have hp : 0 < s.size := by omega
  have b0 : (s[0].toNat : Int) ≤ 255 := by have := s[0].toNat_lt; omega
  have hm := i32_mask3 (s[0].toNat : Int) (by omega) (by omega)
  have HV : Hid (val (bl s) = valFold ((s[0].toNat : Int) % 8) (((bl s).drop 1).take 3)) := by
    have h1 : ((bl s).drop 1).take 3 = (bl s).drop 1 := List.take_of_length_le (by rw [List.length_drop, bl_length]; omega)
    have h2 : ((bl s).drop 1).length = 3 := by rw [List.length_drop, bl_length]; omega
    have e := bl_one s hp
    rw [h1, show val (bl s) = val (s[0] :: (bl s).drop 1) from congrArg val e]
    generalize (bl s).drop 1 = t at *
    rcases t with _ | ⟨b, t⟩
    · simp at h2
    · have h3 : t.length = 2 := by simpa using h2
      show valFold (bz s[0] % _) _ = _
      rw [h3]; rfl
  go_enter Tryz.func175, Tryz.ntmps175
  go_wp2_with fail
  go_loop [3, 4] (fun r i => ∃ k : Nat, 1 ≤ k ∧ k ≤ 4 ∧ i = .int .i64 k ∧ ∃ v : Int, Hid (v = valFold ((s[0].toNat : Int) % 8) (((bl s).drop 1).take (k - 1))) ∧ 0 ≤ v ∧ (k ≤ 1 → v < 32) ∧ (k ≤ 2 → v < 2048) ∧ (k ≤ 3 → v < 131072) ∧ v < 8388608 ∧ r = .int .i32 v) (fun _ i => 4 - (intOf i).toNat)
  case atStart => exact ⟨1, by omega, by omega, rfl, (s[0].toNat : Int) % 8, rfl, by omega, by omega, by omega, by omega, by omega, rfl⟩
  case round =>
    obtain ⟨k, hk1, hk2, rfl, v, hv, h0, h1, h2, h3, h4, rfl⟩ := hrel
    by_cases c : k < 4
    · have c' : k < s.size := by omega
      have b1 : (s[k].toNat : Int) ≤ 255 := by have := s[k].toNat_lt; omega
      have HS : Hid (v * 64 + (s[k].toNat : Int) % 64 = valFold ((s[0].toNat : Int) % 8) (((bl s).drop 1).take k)) := by
        show _ = _
        rw [valFold_snoc _ s k hk1 c', ← hv.out]; omega
      clear hv HV
      have b2 : v < 131072 := h3 (by omega)
      go_wp2_with fail
      exact ⟨⟨k + 1, by omega, by omega, by go_num, _, HS, by omega, by omega, by omega, by omega, by omega, rfl⟩, by simp [intOf]; omega⟩
    · go_wp2_with fail
      go_ret
      refine ⟨ret_int ?_, rfl⟩
      obtain rfl : k = 4 := by omega
      rw [hv.out, HV.out]

/-- utf8.value, at a string of one to four bytes. -/
theorem value_any (s : ByteArray) (w : World) (h1 : 1 ≤ s.size) (h4 : s.size ≤ 4) :
    Calls Tryz.prog 175 #[.string s] w fun e w' => e = .returned (.int .i32 (val (bl s))) ∧ w = w' := by
  rcases (show s.size = 1 ∨ s.size = 2 ∨ s.size = 3 ∨ s.size = 4 by omega) with h | h | h | h
  · exact value_1 s w h
  · exact value_2 s w h
  · exact value_3 s w h
  · exact value_4 s w h
end Go.Proofs.YteknmbijodbfoaaGreatDoor

namespace Go.Proofs.YteknmbijodbfoaaGreatDoor
open Go.RowKit

theorem bl_extractU (s : ByteArray) (a b : Nat) : bl (s.extract a b) = ((bl s).drop a).take (b - a) := Lib.extract_data s a b
theorem take_size (s : ByteArray) (n : Nat) (h : n ≤ s.size) : (s.extract 0 n).size = n := by
  rw [← bl_length, bl_extractU]; simp [bl_length]; omega
theorem bl_take (s : ByteArray) (n : Nat) : bl (s.extract 0 n) = (bl s).take n := by
  rw [bl_extractU]; simp
theorem bl_from (s : ByteArray) (n : Nat) : bl (s.extract n s.size) = (bl s).drop n := by
  rw [bl_extractU]; apply List.take_of_length_le; simp [bl_length]
theorem from_size (s : ByteArray) (n : Nat) : (s.extract n s.size).size = s.size - n := by
  rw [← bl_length, bl_from]; simp [bl_length]

set_option maxHeartbeats 400000 in
theorem decode_w (s : ByteArray) (w : World) (hs : s.size ≤ 140737488351232) (he : s.toList.isEmpty = false) (_he2 : ¬ s.toList = []) (n : Nat) (hn : Hid (measN (bl s) = n)) (hw : Hid (measB (bl s) = true)) (h1 : 1 ≤ n) (h2 : n ≤ 4) (h3 : n ≤ s.size) :
    Calls Tryz.prog 141 #[.string s] w fun e w' => e = .returned (.tuple #[.int .i32 (val ((bl s).take n)), .int .i64 n, .int .i64 0]) ∧ Gr w w' := by
  go_enter Tryz.func141, Tryz.ntmps141
  go_wp2_with fail
  refine (measure_any s _ hs).mono ?_
  rintro e w' ⟨rfl, hg⟩
  rw [hn.out, hw.out]
  have hz := take_size s n h3
  have HZ := Lib.hid hz
  clear hz
  go_wp2_with fail
  refine (value_any _ _ (by rw [HZ.out]; exact h1) (by rw [HZ.out]; exact h2)).mono ?_
  rintro e w' ⟨rfl, rfl⟩
  rw [bl_take]
  go_wp2_with fail
  go_ret3
  exact ⟨rfl, hg⟩
set_option maxHeartbeats 400000 in
theorem decode_n (s : ByteArray) (w : World) (hs : s.size ≤ 140737488351232) (he : s.toList.isEmpty = false) (_he2 : ¬ s.toList = []) (n : Nat) (hn : Hid (measN (bl s) = n)) (hw : Hid (measB (bl s) = false)) (E : Int)
    (hE : (n = 0 ∧ E = 6) ∨ (n ≠ 0 ∧ n = s.size ∧ E = 23) ∨ (n ≠ 0 ∧ n ≠ s.size ∧ E = 3)) :
    Calls Tryz.prog 141 #[.string s] w fun e w' => e = .returned (.tuple #[.int .i32 0, .int .i64 0, .int .i64 E]) ∧ Gr w w' := by
  rcases hE with ⟨h1, rfl⟩ | ⟨h1, h2, rfl⟩ | ⟨h1, h2, rfl⟩
  · have hz : ((n : Int) == 0) = true := by simpa using h1
    clear h1
    go_enter Tryz.func141, Tryz.ntmps141
    go_wp2_with fail
    refine (measure_any s _ hs).mono ?_
    rintro e w' ⟨rfl, hg⟩
    rw [hn.out, hw.out]
    go_wp2_with fail
    go_ret3
    exact ⟨rfl, hg⟩
  · have hz : ((n : Int) == 0) = false := by simpa using h1
    have hz2 : ((n : Int) == (s.size : Int)) = true := by rw [h2]; simp
    clear h1 h2
    go_enter Tryz.func141, Tryz.ntmps141
    go_wp2_with fail
    refine (measure_any s _ hs).mono ?_
    rintro e w' ⟨rfl, hg⟩
    rw [hn.out, hw.out]
    go_wp2_with fail
    go_ret3
    exact ⟨rfl, hg⟩
  · have hz : ((n : Int) == 0) = false := by simpa using h1
    have hz2 : ((n : Int) == (s.size : Int)) = false := by simp; omega
    clear h1 h2
    go_enter Tryz.func141, Tryz.ntmps141
    go_wp2_with fail
    refine (measure_any s _ hs).mono ?_
    rintro e w' ⟨rfl, hg⟩
    rw [hn.out, hw.out]
    go_wp2_with fail
    go_ret3
    exact ⟨rfl, hg⟩
set_option maxHeartbeats 400000 in
theorem decode_e (s : ByteArray) (w : World) (_he : s.toList.isEmpty = true) (he2 : s.toList = []) :
    Calls Tryz.prog 141 #[.string s] w fun e w' => e = .returned (.tuple #[.int .i32 0, .int .i64 0, .int .i64 1]) ∧ Gr w w' := by
  go_enter Tryz.func141, Tryz.ntmps141
  go_wp2_with fail
  go_ret3
  exact ⟨rfl, Gr.refl _⟩

theorem bl_empty (s : ByteArray) : bl s = [] ↔ s.size = 0 := by rw [← bl_length, List.length_eq_zero_iff]

/-- utf8.Decode. -/
theorem decode_any (s : ByteArray) (w : World) (hs : s.size ≤ 140737488351232) :
    Calls Tryz.prog 141 #[.string s] w fun e w' => e = .returned (.tuple #[.int .i32 (decRU (bl s)), .int .i64 (decN (bl s)), .int .i64 (decEU (bl s))]) ∧ Gr w w' := by
  by_cases h0 : bl s = []
  · have he2 : s.toList = [] := by rw [bl_toList, h0]
    rw [h0]
    exact decode_e s w (by rw [he2]; rfl) he2
  · have he2 : ¬ s.toList = [] := by rw [bl_toList]; exact h0
    have he : s.toList.isEmpty = false := by simpa using he2
    by_cases hb : measB (bl s) = true
    · have hR : decRU (bl s) = val ((bl s).take (measN (bl s))) := by simp [decRU, hb]
      have hN : decN (bl s) = measN (bl s) := by simp [decN, hb]
      have hE : decEU (bl s) = 0 := by simp [decEU, hb, h0]
      rw [hR, hN, hE]
      exact decode_w s w hs he he2 _ rfl hb (measN_pos _ hb) (measN_le4 _) (by have := measN_le (bl s); rw [bl_length] at this; exact this)
    · have hb' : measB (bl s) = false := by simpa using hb
      have hR : decRU (bl s) = 0 := by simp [decRU, hb']
      have hN : decN (bl s) = 0 := by simp [decN, hb']
      have hE : decEU (bl s) = if measN (bl s) = 0 then 6 else if measN (bl s) = (bl s).length then 23 else 3 := by simp [decEU, hb', h0]
      rw [hR, hN]
      refine decode_n s w hs he he2 _ rfl hb' _ ?_
      rw [hE, bl_length]
      by_cases c1 : measN (bl s) = 0
      · exact .inl ⟨c1, by rw [if_pos c1]⟩
      · by_cases c2 : measN (bl s) = s.size
        · exact .inr (.inl ⟨c1, c2, by rw [if_neg c1, if_pos c2]⟩)
        · exact .inr (.inr ⟨c1, c2, by rw [if_neg c1, if_neg c2]⟩)
end Go.Proofs.YteknmbijodbfoaaGreatDoor

namespace Go.Proofs.YteknmbijodbfoaaGreatDoor

theorem decE_nil : decEU [] = 1 := by simp [decEU]
theorem decE_zero (l : List UInt8) (h : decEU l = 0) : measB l = true ∧ l ≠ [] := by
  unfold decEU at h
  by_cases c : l = []
  · simp [c] at h
  · by_cases b : measB l = true
    · exact ⟨b, c⟩
    · simp only [if_neg c, if_neg b] at h
      split at h
      · omega
      · split at h <;> omega
theorem decN_pos (l : List UInt8) (h : decEU l = 0) : 1 ≤ decN l := by
  have := (decE_zero l h).1
  simp only [decN, this, if_true]; exact measN_pos l this
theorem decN_le (l : List UInt8) : decN l ≤ l.length := by
  unfold decN; split
  · exact measN_le l
  · omega
theorem decN_le4 (l : List UInt8) : decN l ≤ 4 := by
  unfold decN; split
  · exact measN_le4 l
  · omega
theorem decE_vals (l : List UInt8) : decEU l = 0 ∨ decEU l = 1 ∨ decEU l = 3 ∨ decEU l = 6 ∨ decEU l = 23 := by
  unfold decEU; repeat' split
  all_goals omega

def errFU : Nat → List UInt8 → Int
  | 0, _ => 0
  | f + 1, l => if l = [] then 0 else if decEU l = 0 then errFU f (l.drop (decN l)) else decEU l
def atF : Nat → Nat → List UInt8 → Nat
  | 0, _, _ => 0
  | f + 1, k, l => if l = [] then 0 else if decEU l = 0 then atF f (k + decN l) (l.drop (decN l)) else k
def runF : Nat → List UInt8 → List Int
  | 0, _ => []
  | f + 1, l => if l = [] then [] else if decEU l = 0 then decRU l :: runF f (l.drop (decN l)) else []
def offF : Nat → Nat → List UInt8 → List Nat
  | 0, _, _ => []
  | f + 1, k, l => if l = [] then [] else if decEU l = 0 then k :: offF f (k + decN l) (l.drop (decN l)) else []

theorem drop_short (l : List UInt8) (f : Nat) (h : decEU l = 0) (hf : l.length ≤ f + 1) : (l.drop (decN l)).length ≤ f := by
  have := decN_pos l h; rw [List.length_drop]; omega

theorem errF_eq : ∀ (f g : Nat) (l : List UInt8), l.length ≤ f → l.length ≤ g → errFU f l = errFU g l
  | 0, 0, _, _, _ => rfl
  | 0, g + 1, l, h, _ => by have : l = [] := List.length_eq_zero_iff.1 (by omega); simp [errFU, this]
  | f + 1, 0, l, _, h => by have : l = [] := List.length_eq_zero_iff.1 (by omega); simp [errFU, this]
  | f + 1, g + 1, l, h1, h2 => by
    simp only [errFU]
    by_cases c : l = []
    · simp [c]
    · by_cases d : decEU l = 0
      · simp only [if_neg c, if_pos d]; exact errF_eq f g _ (drop_short l f d h1) (drop_short l g d h2)
      · simp only [if_neg c, if_neg d]
theorem atF_eq : ∀ (f g : Nat) (k : Nat) (l : List UInt8), l.length ≤ f → l.length ≤ g → atF f k l = atF g k l
  | 0, 0, _, _, _, _ => rfl
  | 0, g + 1, k, l, h, _ => by have : l = [] := List.length_eq_zero_iff.1 (by omega); simp [atF, this]
  | f + 1, 0, k, l, _, h => by have : l = [] := List.length_eq_zero_iff.1 (by omega); simp [atF, this]
  | f + 1, g + 1, k, l, h1, h2 => by
    simp only [atF]
    by_cases c : l = []
    · simp [c]
    · by_cases d : decEU l = 0
      · simp only [if_neg c, if_pos d]; exact atF_eq f g _ _ (drop_short l f d h1) (drop_short l g d h2)
      · simp only [if_neg c, if_neg d]
theorem runF_eq : ∀ (f g : Nat) (l : List UInt8), l.length ≤ f → l.length ≤ g → runF f l = runF g l
  | 0, 0, _, _, _ => rfl
  | 0, g + 1, l, h, _ => by have : l = [] := List.length_eq_zero_iff.1 (by omega); simp [runF, this]
  | f + 1, 0, l, _, h => by have : l = [] := List.length_eq_zero_iff.1 (by omega); simp [runF, this]
  | f + 1, g + 1, l, h1, h2 => by
    simp only [runF]
    by_cases c : l = []
    · simp [c]
    · by_cases d : decEU l = 0
      · simp only [if_neg c, if_pos d]; rw [runF_eq f g _ (drop_short l f d h1) (drop_short l g d h2)]
      · simp only [if_neg c, if_neg d]
theorem offF_eq : ∀ (f g : Nat) (k : Nat) (l : List UInt8), l.length ≤ f → l.length ≤ g → offF f k l = offF g k l
  | 0, 0, _, _, _, _ => rfl
  | 0, g + 1, k, l, h, _ => by have : l = [] := List.length_eq_zero_iff.1 (by omega); simp [offF, this]
  | f + 1, 0, k, l, _, h => by have : l = [] := List.length_eq_zero_iff.1 (by omega); simp [offF, this]
  | f + 1, g + 1, k, l, h1, h2 => by
    simp only [offF]
    by_cases c : l = []
    · simp [c]
    · by_cases d : decEU l = 0
      · simp only [if_neg c, if_pos d]; rw [offF_eq f g _ _ (drop_short l f d h1) (drop_short l g d h2)]
      · simp only [if_neg c, if_neg d]

/-- The kind of the first error; its offset, counted from k; the code points ahead of it; their offsets, counted from k. -/
def errOf (l : List UInt8) : Int := errFU l.length l
def atOf (k : Nat) (l : List UInt8) : Nat := atF l.length k l
def runOf (l : List UInt8) : List Int := runF l.length l
def offOf (k : Nat) (l : List UInt8) : List Nat := offF l.length k l

theorem errOf_nil : errOf [] = 0 := rfl
theorem atOf_nil (k : Nat) : atOf k [] = 0 := rfl
theorem runOf_nil : runOf [] = [] := rfl
theorem offOf_nil (k : Nat) : offOf k [] = [] := rfl
theorem errOf_bad (l : List UInt8) (hl : l ≠ []) (h : decEU l ≠ 0) : errOf l = decEU l := by
  rcases l with _ | ⟨a, t⟩
  · exact absurd rfl hl
  · simp [errOf, errFU, h]
theorem atOf_bad (k : Nat) (l : List UInt8) (hl : l ≠ []) (h : decEU l ≠ 0) : atOf k l = k := by
  rcases l with _ | ⟨a, t⟩
  · exact absurd rfl hl
  · simp [atOf, atF, h]
theorem runOf_bad (l : List UInt8) (h : decEU l ≠ 0) : runOf l = [] := by
  rcases l with _ | ⟨a, t⟩
  · rfl
  · simp [runOf, runF, h]
theorem offOf_bad (k : Nat) (l : List UInt8) (h : decEU l ≠ 0) : offOf k l = [] := by
  rcases l with _ | ⟨a, t⟩
  · rfl
  · simp [offOf, offF, h]
theorem errOf_good (l : List UInt8) (h : decEU l = 0) : errOf l = errOf (l.drop (decN l)) := by
  have hl := (decE_zero l h).2
  rcases l with _ | ⟨a, t⟩
  · exact absurd rfl hl
  · have hd := drop_short _ t.length h (by simp)
    rw [show errOf (a :: t) = errFU t.length ((a :: t).drop (decN (a :: t))) by simp [errOf, errFU, h]]
    exact errF_eq _ _ _ hd (Nat.le_refl _)
theorem atOf_good (k : Nat) (l : List UInt8) (h : decEU l = 0) : atOf k l = atOf (k + decN l) (l.drop (decN l)) := by
  have hl := (decE_zero l h).2
  rcases l with _ | ⟨a, t⟩
  · exact absurd rfl hl
  · have hd := drop_short _ t.length h (by simp)
    rw [show atOf k (a :: t) = atF t.length (k + decN (a :: t)) ((a :: t).drop (decN (a :: t))) by simp [atOf, atF, h]]
    exact atF_eq _ _ _ _ hd (Nat.le_refl _)
theorem runOf_good (l : List UInt8) (h : decEU l = 0) : runOf l = decRU l :: runOf (l.drop (decN l)) := by
  have hl := (decE_zero l h).2
  rcases l with _ | ⟨a, t⟩
  · exact absurd rfl hl
  · have hd := drop_short _ t.length h (by simp)
    rw [show runOf (a :: t) = decRU (a :: t) :: runF t.length ((a :: t).drop (decN (a :: t))) by simp [runOf, runF, h]]
    rw [runF_eq _ _ _ hd (Nat.le_refl _)]; rfl
theorem offOf_good (k : Nat) (l : List UInt8) (h : decEU l = 0) : offOf k l = k :: offOf (k + decN l) (l.drop (decN l)) := by
  have hl := (decE_zero l h).2
  rcases l with _ | ⟨a, t⟩
  · exact absurd rfl hl
  · have hd := drop_short _ t.length h (by simp)
    rw [show offOf k (a :: t) = k :: offF t.length (k + decN (a :: t)) ((a :: t).drop (decN (a :: t))) by simp [offOf, offF, h]]
    rw [offF_eq _ _ _ _ hd (Nat.le_refl _)]; rfl

/-- An induction along the code points. -/
theorem scan_ind {P : List UInt8 → Prop} (h0 : P []) (h1 : ∀ l, l ≠ [] → decEU l ≠ 0 → P l) (h2 : ∀ l, decEU l = 0 → P (l.drop (decN l)) → P l) (l : List UInt8) : P l := by
  obtain ⟨n, hn⟩ : ∃ n, l.length ≤ n := ⟨_, Nat.le_refl _⟩
  induction n generalizing l with
  | zero => have : l = [] := List.length_eq_zero_iff.1 (by omega); rw [this]; exact h0
  | succ n ih =>
    by_cases c : l = []
    · rw [c]; exact h0
    · by_cases d : decEU l = 0
      · exact h2 l d (ih _ (drop_short l n d hn))
      · exact h1 l c d

theorem len_run_off (l : List UInt8) : ∀ k, (runOf l).length = (offOf k l).length := by
  refine scan_ind (P := fun l => ∀ k, (runOf l).length = (offOf k l).length) ?_ ?_ ?_ l
  · intro k; rfl
  · intro l _ h k; rw [runOf_bad l h, offOf_bad k l h]; rfl
  · intro l h ih k; rw [runOf_good l h, offOf_good k l h, List.length_cons, List.length_cons, ih]
theorem len_run (l : List UInt8) : (runOf l).length ≤ l.length := by
  refine scan_ind (P := fun l => (runOf l).length ≤ l.length) ?_ ?_ ?_ l
  · simp [runOf_nil]
  · intro l _ h; rw [runOf_bad l h]; simp
  · intro l h ih; rw [runOf_good l h, List.length_cons]; have := decN_pos l h; have := decN_le l; rw [List.length_drop] at ih; omega
theorem errOf_vals (l : List UInt8) : errOf l = 0 ∨ errOf l = 3 ∨ errOf l = 6 ∨ errOf l = 23 := by
  refine scan_ind (P := fun l => errOf l = 0 ∨ errOf l = 3 ∨ errOf l = 6 ∨ errOf l = 23) ?_ ?_ ?_ l
  · exact .inl rfl
  · intro l hl h
    rw [errOf_bad l hl h]
    have := decE_vals l
    have : decEU l ≠ 1 := by
      unfold decEU; rw [if_neg hl]; repeat' split
      all_goals omega
    omega
  · intro l h ih; rw [errOf_good l h]; exact ih
theorem atOf_le (l : List UInt8) : ∀ k, atOf k l ≤ k + l.length := by
  refine scan_ind (P := fun l => ∀ k, atOf k l ≤ k + l.length) ?_ ?_ ?_ l
  · intro k; simp [atOf_nil]
  · intro l hl h k; rw [atOf_bad k l hl h]; omega
  · intro l h ih k; rw [atOf_good k l h]; have := ih (k + decN l); have := decN_le l; rw [List.length_drop] at *; omega
end Go.Proofs.YteknmbijodbfoaaGreatDoor

namespace Go.Proofs.YteknmbijodbfoaaGreatDoor
open Go.RowKit

set_option maxHeartbeats 400000 in
/-- utf8.Check. -/
theorem check_any (s : ByteArray) (w : World) (hs : s.size ≤ 140737488351232) :
    Calls Tryz.prog 124 #[.string s] w fun e w' => e = .returned (.tuple #[.int .i64 (atOf 0 (bl s)), .int .i64 (errOf (bl s))]) ∧ Gr w w' := by
  obtain ⟨A, hA⟩ : ∃ A, A = atOf 0 (bl s) := ⟨_, rfl⟩
  obtain ⟨E, hE⟩ : ∃ E, E = errOf (bl s) := ⟨_, rfl⟩
  rw [← hA, ← hE]
  have HA := Lib.hid hA
  have HE := Lib.hid hE
  clear hA hE
  go_enter Tryz.func124, Tryz.ntmps124
  go_wp2_with fail
  go_loopw [4, 5, 6, 7] (fun at_ _ _ _ wr => ∃ k : Nat, k ≤ s.size ∧ at_ = .int .i64 k ∧ Hid (A = atOf k ((bl s).drop k)) ∧ Hid (E = errOf ((bl s).drop k)) ∧ Gr w wr) (fun at_ _ _ _ _ => s.size - (intOf at_).toNat)
  case atStart => exact ⟨0, Nat.zero_le _, rfl, HA, HE, Gr.refl _⟩
  case round =>
    obtain ⟨k, hk, rfl, hA, hE, hg⟩ := hrel
    clear HA HE
    by_cases c : k < s.size
    · have hne : (bl s).drop k ≠ [] := by rw [bl_drop s k c]; simp
      by_cases d : decEU ((bl s).drop k) = 0
      · have hA' : Hid (A = atOf (k + decN ((bl s).drop k)) ((bl s).drop (k + decN ((bl s).drop k)))) := by
          have := hA.out; rw [atOf_good _ _ d, List.drop_drop] at this; exact this
        have hE' : Hid (E = errOf ((bl s).drop (k + decN ((bl s).drop k)))) := by
          have := hE.out; rw [errOf_good _ d, List.drop_drop] at this; exact this
        have hn1 := decN_pos _ d
        have hn2 := decN_le ((bl s).drop k)
        rw [List.length_drop, bl_length] at hn2
        have D := Lib.hid d
        clear d hA hE hne
        go_wp2_with fail
        refine (decode_any _ _ (by rw [from_size]; omega)).mono ?_
        rintro e w' ⟨rfl, hg'⟩
        rw [bl_from, D.out]
        generalize decRU ((bl s).drop k) = R
        generalize decN ((bl s).drop k) = n at *
        go_wp2_with fail
        go_roundw
        case rel => exact ⟨k + n, by omega, by go_num, hA', hE', hg.trans hg'⟩
        case measure => simp [intOf]; omega
      · have hA' : Hid (A = k) := by
          have := hA.out; rw [atOf_bad _ _ hne d] at this; exact this
        have hE' : Hid (E = decEU ((bl s).drop k)) := by
          have := hE.out; rw [errOf_bad _ hne d] at this; exact this
        have D : (decEU ((bl s).drop k) != 0) = true := by simpa using d
        clear d hA hE hne
        go_wp2_with fail
        refine (decode_any _ _ (by rw [from_size]; omega)).mono ?_
        rintro e w' ⟨rfl, hg'⟩
        rw [bl_from]
        generalize decRU ((bl s).drop k) = R
        generalize decN ((bl s).drop k) = n at *
        generalize decEU ((bl s).drop k) = x at *
        go_wp2_with fail
        go_ret2
        have h1 := hA'.out
        have h2 := hE'.out
        subst h1 h2
        exact ⟨rfl, hg.trans hg'⟩
    · have h1 := hA.out
      have h2 := hE.out
      have h0 : (bl s).drop k = [] := List.drop_of_length_le (by rw [bl_length]; omega)
      rw [h0] at h1 h2
      rw [atOf_nil] at h1
      rw [errOf_nil] at h2
      have H1 := Lib.hid h1
      have H2 := Lib.hid h2
      clear h1 h2 h0 hA hE
      go_wp2_with fail
      go_ret2
      have h1 := H1.out
      have h2 := H2.out
      subst h1 h2
      exact ⟨rfl, hg⟩

set_option maxHeartbeats 400000 in
/-- utf8.Valid. -/
theorem valid_any (s : ByteArray) (w : World) (hs : s.size ≤ 140737488351232) :
    Calls Tryz.prog 113 #[.string s] w fun e w' => e = .returned (.bool (errOf (bl s) == 0)) ∧ Gr w w' := by
  go_enter Tryz.func113, Tryz.ntmps113
  go_wp2_with fail
  refine (check_any _ _ hs).mono ?_
  rintro e w' ⟨rfl, hg'⟩
  go_wp2_with fail
  go_ret
  exact ⟨rfl, hg'⟩

/-- The beginning of a string, at most n bytes. -/
def shortB (s : ByteArray) (n : Nat) : ByteArray := s.extract 0 (min s.size n)
theorem shortB_size (s : ByteArray) (n : Nat) : (shortB s n).size = min s.size n := take_size s _ (Nat.min_le_left _ _)

end Go.Proofs.YteknmbijodbfoaaGreatDoor

namespace Go.Proofs.YteknmbijodbfoaaGreatDoor
open Go.RowKit Go.Shelf
attribute [local go_sem] Oper.semAt_some

/-- The offsets and the code points up to the first error. -/
def tokOf (k : Nat) (l : List UInt8) : List (Nat × Int) := (offOf k l).zip (runOf l)
theorem tokOf_nil (k : Nat) : tokOf k [] = [] := rfl
theorem tokOf_bad (k : Nat) (l : List UInt8) (h : decEU l ≠ 0) : tokOf k l = [] := by unfold tokOf; rw [offOf_bad k l h]; rfl
theorem tokOf_good (k : Nat) (l : List UInt8) (h : decEU l = 0) : tokOf k l = (k, decRU l) :: tokOf (k + decN l) (l.drop (decN l)) := by
  unfold tokOf; rw [offOf_good k l h, runOf_good l h]; rfl
theorem tokOf_len (k : Nat) (l : List UInt8) : (tokOf k l).length = (runOf l).length := by
  unfold tokOf; rw [List.length_zip, ← len_run_off l k]; simp

/-- A round keeps the block in which the string lies. -/
def KeepsBlock (B : Nat) (W W' : World) : Prop := W'.heap[B]? = W.heap[B]?
theorem keepsBlock_t {B : Nat} {a b c : World} (h : KeepsBlock B a b) (k : KeepsBlock B b c) : KeepsBlock B a c := k.trans h

set_option maxHeartbeats 400000 in
theorem runes_any (s : ByteArray) (w : World) :
    Calls Tryz.prog 114 #[.string s] w fun e w' => e = .returned (.func (.func 140) #[] #[.pointer (some ⟨w.heap.size, 0, none⟩)]) ∧ w' = w.alloc (.cells #[.string s] 9) := by
  go_enter Tryz.func114, Tryz.ntmps114
  go_wp2
  go_ret
  exact ⟨rfl, rfl⟩

set_option maxRecDepth 100000 in
set_option maxHeartbeats 2000000 in
/-- Runes's closure, for every loop body that keeps the string's block. -/
theorem runes1_in (n : Nat) (hn : 1 ≤ n) (l Bs : Nat) (s : ByteArray) (hs : s.size ≤ 140737488351232) (ALL : List (Nat × Int)) (hA : Hid (ALL = tokOf 0 (bl s))) (J Jx : List (Nat × Int) → World → Prop)
    (W : World) (hJa : AbidesFrom W.heap.size J)
    (hY : ∀ pre x W1, J pre W1 → pre.length < ALL.length → YieldAt Fence.wide (n - 1) Tryz.prog l #[.int .i64 (x.1 : Int), .int .i32 x.2] W1 fun e W' =>
      (e = .returned (.bool true) ∧ J (pre ++ [x]) W' ∧ KeepsBlock Bs W1 W') ∨ (e = .returned (.bool false) ∧ Jx (pre ++ [x]) W'))
    (hBs : Boxed W Bs 9 (.string s)) (h0 : J [] W) :
    CallsIn Fence.wide n Tryz.prog 140 #[.func (.yield l) #[] #[], .pointer (some ⟨Bs, 0, none⟩)] W fun e W' => (∃ v, e = .returned v) ∧
      ((∃ ys, ys = ALL ∧ J ys W') ∨ (∃ pre, pre <+: ALL ∧ Jx pre W')) := by
  refine callsIn_of_wp Tryz.func140 rfl trivial ?_ rfl
  simp only [Tryz.ntmps140, List.size_toArray, List.length_cons, List.length_nil, Nat.reduceAdd, Nat.reduceSub, Array.replicate_succ, Array.replicate_zero, List.push_toArray, List.append_toArray, List.nil_append, List.cons_append]
  have HY := Lib.hid hY
  have HJ := Lib.hid hJa
  clear hY hJa
  gi_wp2
  gi_loopw [3, 4, 5, 6] (fun i _ _ _ wr => ∃ (k : Nat) (pre : List (Nat × Int)), k ≤ s.size ∧ i = .int .i64 k ∧ Hid (ALL = pre ++ tokOf k ((bl s).drop k)) ∧ Boxed wr Bs 9 (.string s) ∧ J pre wr)
    (fun i _ _ _ _ => s.size - (intOf i).toNat)
  case atStart => exact ⟨0, [], Nat.zero_le _, rfl, hA, hBs, h0⟩
  case round =>
    obtain ⟨k, pre, hk, rfl, kA, hbx, hJs⟩ := hrel
    have hcx := hbx.cell
    have HB := Lib.hid hbx
    clear hbx
    by_cases c : k < s.size
    · have hne : (bl s).drop k ≠ [] := by rw [bl_drop s k c]; simp
      by_cases d : decEU ((bl s).drop k) = 0
      · have hn1 := decN_pos _ d
        have hn2 := decN_le ((bl s).drop k)
        rw [List.length_drop, bl_length] at hn2
        have kA' : Hid (ALL = (pre ++ [(k, decRU ((bl s).drop k))]) ++ tokOf (k + decN ((bl s).drop k)) ((bl s).drop (k + decN ((bl s).drop k)))) := by
          have := kA.out; rw [tokOf_good _ _ d, List.drop_drop] at this; simpa [Hid] using this
        have D := Lib.hid d
        clear d kA hne
        gi_wp2_with fail
        refine ⟨trivial, ?_⟩
        refine (callsIn_wide.2 (decode_any _ _ (by rw [from_size]; omega))).mono ?_
        rintro e w' ⟨rfl, hg'⟩
        rw [bl_from, D.out]
        generalize decRU ((bl s).drop k) = R at *
        generalize decN ((bl s).drop k) = m at *
        have hJ' := HJ.out _ _ _ none hJs ⟨Below.os hg', Below.tape hg', Below.output hg', Below.size hg', fun k hk _ => Below.block hg' k hk⟩ (fun r e => by cases e)
        have hlen : pre.length < ALL.length := by rw [kA'.out]; simp
        obtain ⟨fn, tmps, assign, body, hy, hR⟩ := HY.out _ (k, R) w' hJ' hlen
        dsimp only at hy
        have hB' : Hid (Boxed w' Bs 9 (.string s)) := by show w'.heap[Bs]? = _; rw [Below.block hg' Bs HB.out.lt]; exact HB.out
        clear hlen hJs
        gi_wp2
        refine hR.mono ?_
        rintro e W3 (⟨rfl, hJ3, hk3⟩ | ⟨rfl, hJx3⟩)
        · gi_wp2
          go_roundw
          case rel => exact ⟨k + m, _, by omega, by go_num, kA', (show W3.heap[Bs]? = _ from hk3.trans hB'.out), hJ3⟩
          case measure => simp [intOf]; omega
        · gi_wp2
          refine bodyPost_ret (results_none rfl _ _ _) rfl ?_
          exact ⟨⟨_, rfl⟩, .inr ⟨_, ⟨_, kA'.out.symm⟩, hJx3⟩⟩
      · have kA' : Hid (pre = ALL) := by
          have := kA.out; rw [tokOf_bad _ _ d, List.append_nil] at this; exact this.symm
        have D : (decEU ((bl s).drop k) != 0) = true := by simpa using d
        clear d kA hne
        gi_wp2_with fail
        refine ⟨trivial, ?_⟩
        refine (callsIn_wide.2 (decode_any _ _ (by rw [from_size]; omega))).mono ?_
        rintro e w' ⟨rfl, hg'⟩
        rw [bl_from]
        generalize decRU ((bl s).drop k) = R at *
        generalize decN ((bl s).drop k) = m at *
        generalize decEU ((bl s).drop k) = E at *
        have hJ' := HJ.out _ _ _ none hJs ⟨Below.os hg', Below.tape hg', Below.output hg', Below.size hg', fun k hk _ => Below.block hg' k hk⟩ (fun r e => by cases e)
        gi_wp2
        refine ⟨fun _ h => (by cases h), ?_⟩
        gi_wp2
        refine bodyPost_ret (results_none rfl _ _ _) rfl ?_
        exact ⟨⟨_, rfl⟩, .inl ⟨_, kA'.out, hJ'⟩⟩
    · have kA' : Hid (pre = ALL) := by
        have := kA.out; rw [List.drop_of_length_le (by rw [bl_length]; omega), tokOf_nil, List.append_nil] at this; exact this.symm
      clear kA
      gi_wp2
      go_end0
      exact ⟨⟨_, rfl⟩, .inl ⟨_, kA'.out, hJs⟩⟩

/-- What Runes returns: an iterator over the offsets and code points. -/
theorem runes_stops (n : Nat) (hn : 1 ≤ n) (Bs : Nat) (s : ByteArray) (hs : s.size ≤ 140737488351232) (w : World) (hBs : Boxed w Bs 9 (.string s)) :
    SeqStopsK Fence.wide n Tryz.prog 140 #[.pointer (some ⟨Bs, 0, none⟩)] (fun x : Nat × Int => #[Value.int .i64 (x.1 : Int), Value.int .i32 x.2]) (KeepsBlock Bs) (fun ys => ys = tokOf 0 (bl s)) (fun pre => pre <+: tokOf 0 (bl s)) (tokOf 0 (bl s)).length w :=
  fun l J Jx W hW hJ _ hY h0 => runes1_in n hn l Bs s hs _ rfl J Jx W hJ hY (show W.heap[Bs]? = _ by rw [hW.block Bs hBs.lt]; exact hBs) h0
theorem keepsBlock_b {B : Nat} {w : World} (h : B < w.heap.size) : ∀ (W : World) (l : Nat) (o o' : Obj), w.heap.size ≤ l → W.heap[l]? = some o → o.isCells = false → o.isWalk = false → KeepsBlock B W (W.putObj l o') :=
  fun W l o o' hl _ _ _ => World.putObj_heap_other (by omega)
end Go.Proofs.YteknmbijodbfoaaGreatDoor

namespace Go.Proofs.YteknmbijodbfoaaGreatDoor
open Go.RowKit Go.Shelf
attribute [local go_sem] Oper.semAt_some

/-- A control character. -/
def ctlB (r : Int) : Bool := decide (r < 32) || (decide (127 ≤ r) && decide (r ≤ 159)) || decide (r = 8232) || decide (r = 8233)
theorem ctlB_iff (r : Int) : ctlB r = true ↔ r < 32 ∨ (127 ≤ r ∧ r ≤ 159) ∨ r = 8232 ∨ r = 8233 := by
  unfold ctlB; simp only [Bool.or_eq_true, Bool.and_eq_true, decide_eq_true_eq]; omega

set_option maxHeartbeats 400000 in
theorem isControl_any (r : Int) (w : World) : Calls Tryz.prog 115 #[.int .i32 r] w fun e w' => e = .returned (.bool (ctlB r)) ∧ w = w' := by
  go_enter Tryz.func115, Tryz.ntmps115
  go_wp2
  all_goals
    go_ret
    refine ⟨ret_bool ?_, rfl⟩
    rw [Bool.eq_iff_iff, ctlB_iff]
    simp at *
    omega
/-- Printable. -/
def prB (l : List UInt8) : Bool := (errOf l == 0) && (runOf l).all fun r => !ctlB r

set_option maxHeartbeats 400000 in
theorem print_bad (s : ByteArray) (w : World) (hs : s.size ≤ 140737488351232) (h : Hid ((errOf (bl s) == 0) = false)) :
    Calls Tryz.prog 89 #[.string s] w fun e w' => e = .returned (.bool false) ∧ Gr w w' := by
  have hc : ∀ w1 : World, Gr (w.alloc (.cells #[.bool false] 4)) w1 → w1.cell? ⟨w.heap.size, 0, none⟩ = some (.bool false) ∧ w1.frozen? ⟨w.heap.size, 0, none⟩ = false := by
    intro w1 hg
    have b := Boxed.new w 4 (.bool false)
    exact ⟨(hg.cell (p := ⟨w.heap.size, 0, none⟩) (by simp)).trans b.cell, (hg.frozen (p := ⟨w.heap.size, 0, none⟩) (by simp)).trans b.frozen⟩
  have HC := Lib.hid hc
  clear hc
  go_enter Tryz.func89, Tryz.ntmps89
  go_wp2_with fail
  refine (valid_any s _ hs).mono ?_
  rintro e w1 ⟨rfl, hg1⟩
  rw [h.out]
  obtain ⟨c1, f1⟩ := HC.out _ hg1
  go_wp2_with fail
  refine bodyPost_ret (v := .bool false) (by simp [results, Tryz.results89, go_sem, c1]) rfl ⟨rfl, ?_⟩
  exact (((Gr.refl w).alloc _).trans hg1).setCell (p := ⟨w.heap.size, 0, none⟩) (Nat.le_refl _) _

set_option maxRecDepth 100000 in
set_option maxHeartbeats 2000000 in
theorem print_in (s : ByteArray) (w : World) (hs : s.size ≤ 140737488351232) (n : Nat) (hn : 3 ≤ n) (h : Hid ((errOf (bl s) == 0) = true)) (ALL : List (Nat × Int)) (hA : Hid (tokOf 0 (bl s) = ALL)) :
    CallsIn Fence.wide n Tryz.prog 89 #[.string s] w fun e w' => e = .returned (.bool (ALL.all fun x => !ctlB x.2)) ∧ Gr w w' := by
  have h1 : 1 ≤ n := by omega
  refine callsIn_of_wp_marks Tryz.func89 rfl trivial ?_ rfl
  simp only [Tryz.ntmps89, List.size_toArray, List.length_cons, List.length_nil, Nat.reduceAdd, Nat.reduceSub, Array.replicate_succ, Array.replicate_zero, List.push_toArray, List.append_toArray, List.nil_append, List.cons_append]
  gi_wp2_with fail
  refine ⟨trivial, ?_⟩
  refine (callsIn_wide.2 (valid_any s _ hs)).mono ?_
  rintro e w1 ⟨rfl, hg1⟩
  rw [h.out]
  gi_wp2_with fail
  refine ⟨trivial, ?_⟩
  refine (callsIn_wide.2 (runes_any s _)).mono ?_
  rintro e w2 ⟨rfl, rfl⟩
  gi_wp2_with fail
  have bR : Boxed (w1.alloc (.cells #[.string s] 9)) w.heap.size 4 (.bool false) := by
    have b := Boxed.new w 4 (.bool false)
    have b1 : Boxed w1 w.heap.size 4 (.bool false) := (Below.block hg1 w.heap.size (by simp)).trans b
    exact b1.alloc _
  have bS := Boxed.new w1 9 (.string s)
  have hsz := hg1.size
  simp only [World.size_alloc] at hsz
  have hB0 : Below w.heap.size w (w1.alloc (.cells #[.string s] 9)) := (((Gr.refl w).alloc _).trans hg1).alloc _
  have hseq := runes_stops (n - 1) (by omega) w1.heap.size s hs _ bS
  rw [hA.out] at hseq
  refine wpIn_rangeFunc_ownG rfl h1 (gf := 140) (lb := #[.pointer (some ⟨w1.heap.size, 0, none⟩)]) rfl trivial (enters_of Tryz.func140 (by kernel_rfl) rfl)
    hseq keepsBlock_t (keepsBlock_b (by simp)) (Below.refl _ _) (fun _ => rfl)
    (fun pre W => ((∀ p ∈ pre, ctlB p.2 = false) ∧ Boxed W w.heap.size 4 (.bool false)) ∧ Below w.heap.size w W)
    (fun c pre W => ((c = .ret ∧ ∃ p ∈ pre, ctlB p.2 = true) ∧ Boxed W w.heap.size 4 (.bool false)) ∧ Below w.heap.size w W)
    (OwnFrom.and (OwnFrom.and (fun _ _ _ _ hs _ _ => hs) (Own.from (boxed_own w.heap.size 4 (fun _ : List (Nat × Int) => .bool false)) _)) (ownFrom_below (Nat.le_refl _) (by simp; omega)))
    (fun c => OwnFrom.and (OwnFrom.and (fun _ _ _ _ hs _ _ => hs) (Own.from (boxed_own w.heap.size 4 (fun _ : List (Nat × Int) => .bool false)) _)) (ownFrom_below (Nat.le_refl _) (by simp; omega)))
    ⟨⟨(fun _ h => by cases h), bR⟩, hB0⟩
    (fun x => { tmps := #[.string s, undef, .pointer (some ⟨w.heap.size, 0, none⟩), undef, .int .i32 x.2, .string s, .bool true, .bool false, .string s, .func (.func 140) #[] #[.pointer (some ⟨w1.heap.size, 0, none⟩)], .int .i64 (x.1 : Int), .int .i32 x.2, undef, undef], defers := [] }) ?assign ?body ?done ?stop
  case assign =>
    intro l x W K hK
    gi_wp2
    exact hK
  case body =>
    rintro l pre x W ⟨⟨hp, hbx⟩, hB⟩ _
    have hc := hbx.cell
    have hf := hbx.frozen
    have HB := Lib.hid hbx
    have HP := Lib.hid hp
    clear hbx hp
    gi_wp2_with fail
    refine ⟨trivial, (fun _ => by omega), ?_⟩
    refine (CallsIn.inRound l (callsIn_wide.2 (isControl_any x.2 _))).mono ?_
    rintro e w' ⟨rfl, rfl⟩
    cases hx : ctlB x.2 with
    | true =>
      have HX := Lib.hid hx
      clear hx
      gi_wp2
      exact ⟨(KeepsOthers.setCell _ _ _).from _, ⟨⟨rfl, x, by simp, HX.out⟩, Boxed.set (.bool false) HB.out⟩, hB.setCell (p := ⟨w.heap.size, 0, none⟩) (Nat.le_refl _) _⟩
    | false =>
      have HX := Lib.hid hx
      clear hx
      gi_wp2
      exact ⟨KeepsFrom.refl _ _, rfl, ⟨fun p hp => (List.mem_append.1 hp).elim (HP.out p) (fun e => by simp at e; subst e; exact HX.out), HB.out⟩, hB⟩
  case done =>
    rintro D ys W hD rfl ⟨⟨hp, hbx⟩, hB⟩ hK
    have hc := hbx.cell
    have hf := hbx.frozen
    gi_wp2
    have hK' := (KeepsOthers.setCell W ⟨w.heap.size, 0, none⟩ (.bool true)).same D _ hK rfl
    refine ⟨by simp, .inl ⟨_, _, rfl, run_takeDeferred hK', ?_⟩⟩
    have hc5 := cell_kept (World.cell?_setCell_same' W ⟨w.heap.size, 0, none⟩ (.bool true) (by rw [hc]; rfl)) (grownBy_putObj' _ D (.deferred none)) (fun r e => by cases e; exact ⟨_, hK', rfl⟩)
    refine ⟨.bool true, ?_, ret_bool (List.all_eq_true.2 (fun x hx => by rw [hp x hx]; rfl)).symm, (hB.setCell (p := ⟨w.heap.size, 0, none⟩) (Nat.le_refl _) _).trans (belowK_b (w := w) (Nat.le_refl _) _ D _ _ (by simp at hD; omega) hK' rfl rfl)⟩
    simp [results, Tryz.f89, go_sem, hc5]
  case stop =>
    rintro D c pre W hD hpre ⟨⟨⟨rfl, x, hx, hx2⟩, hbx⟩, hB⟩ hK
    gi_wp2
    refine ⟨by simp, .inl ⟨_, _, rfl, run_takeDeferred hK, ?_⟩⟩
    have hc5 := cell_kept hbx.cell (grownBy_putObj' _ D (.deferred none)) (fun r e => by cases e; exact ⟨_, hK, rfl⟩)
    refine ⟨.bool false, ?_, ret_bool (Bool.eq_false_iff.2 (fun h => by have := List.all_eq_true.1 h x (hpre.subset hx); rw [hx2] at this; cases this)).symm, hB.trans (belowK_b (w := w) (Nat.le_refl _) W D _ _ (by simp at hD; omega) hK rfl rfl)⟩
    simp [results, Tryz.f89, go_sem, hc5]

theorem all_tok (l : List UInt8) : (tokOf 0 l).all (fun x => !ctlB x.2) = (runOf l).all fun r => !ctlB r := by
  have h : (tokOf 0 l).map Prod.snd = runOf l := by
    unfold tokOf; rw [List.map_snd_zip]; rw [len_run_off l 0]; exact Nat.le_refl _
  rw [← h, List.all_map]; rfl

/-- utf8.Printable. -/
theorem print_any (s : ByteArray) (w : World) (hs : s.size ≤ 140737488351232) :
    Calls Tryz.prog 89 #[.string s] w fun e w' => e = .returned (.bool (prB (bl s))) ∧ Gr w w' := by
  cases h : (errOf (bl s) == 0) with
  | true =>
    have e : prB (bl s) = (tokOf 0 (bl s)).all (fun x => !ctlB x.2) := by unfold prB; rw [h, all_tok]; rfl
    rw [e]
    exact callsIn_wide.1 (print_in s w hs 3 (by omega) h _ rfl)
  | false =>
    have e : prB (bl s) = false := by unfold prB; rw [h]; rfl
    rw [e]
    exact print_bad s w hs h
end Go.Proofs.YteknmbijodbfoaaGreatDoor

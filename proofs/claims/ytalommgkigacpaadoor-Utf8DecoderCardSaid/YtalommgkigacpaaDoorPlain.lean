/- Plain lists of bytes: what utf8.measure, value and Decode, and the reference's Begins and First, compute; that the reference's First is Decode. No program in sight. -/
namespace Go.Proofs.YtalommgkigacpaaDoor

/-- The number of bytes of the encodings that begin with a byte. -/
def lenZ (c : Int) : Int := if c ≤ 127 then 1 else if c < 194 then 0 else if c ≤ 223 then 2 else if c ≤ 239 then 3 else if c ≤ 244 then 4 else 0

/-- May byte c stand at index i behind the first byte f? -/
def contB (f i c : Int) : Bool :=
  decide ((if i = 1 then (if f = 224 then 160 else if f = 240 then 144 else 128) else 128) ≤ c) && decide (c ≤ (if i = 1 then (if f = 237 then 159 else if f = 244 then 143 else 191) else 191))

def bz (c : UInt8) : Int := (c.toNat : Int)
theorem bz_lo (c : UInt8) : 0 ≤ bz c := by unfold bz; omega
theorem bz_hi (c : UInt8) : bz c ≤ 255 := by unfold bz; have := c.toNat_lt; omega

/-- How far the bytes go on, from index i. -/
def goOn (f size : Int) : Nat → List UInt8 → Nat
  | i, [] => i
  | i, c :: t => if (decide ((i : Int) < size) && contB f i (bz c)) = true then goOn f size (i + 1) t else i

def measN : List UInt8 → Nat
  | [] => 0
  | a :: t => if lenZ (bz a) = 0 then 0 else goOn (bz a) (lenZ (bz a)) 1 t
def measB : List UInt8 → Bool
  | [] => false
  | a :: t => if lenZ (bz a) = 0 then false else decide ((goOn (bz a) (lenZ (bz a)) 1 t : Int) = lenZ (bz a))

def valFold (r : Int) (l : List UInt8) : Int := l.foldl (fun r c => 64 * r + bz c % 64) r
def val : List UInt8 → Int
  | [] => 0
  | [a] => bz a
  | a :: b :: t => valFold (bz a % (if t.length = 0 then 32 else if t.length = 1 then 16 else 8)) (b :: t)

def decR (l : List UInt8) : Int := if measB l then val (l.take (measN l)) else 0
def decN (l : List UInt8) : Nat := if measB l then measN l else 0
def decE (l : List UInt8) : Int := if l = [] then 1 else if measB l then 0 else if measN l = 0 then 6 else if measN l = l.length then 23 else 3

/-! the reference -/
def leadN (c : Int) : Int := if c < 128 then 1 else if c < 192 then 0 else if c < 224 then 2 else if c < 240 then 3 else if c < 248 then 4 else 0
def leadV (c : Int) : Int := if c < 128 then c else if c < 192 then 0 else if c < 224 then c - 192 else if c < 240 then c - 224 else if c < 248 then c - 240 else 0
def leastZ (n : Int) : Int := if n = 2 then 128 else if n = 3 then 2048 else if n = 4 then 65536 else 0
def mostZ (n : Int) : Int := if n = 1 then 127 else if n = 2 then 2047 else if n = 3 then 65535 else if n = 4 then 1114111 else 0
def conts (l : List UInt8) : Bool := l.all fun c => decide (128 ≤ bz c) && decide (bz c ≤ 191)
def refV (v : Int) (l : List UInt8) : Int := l.foldl (fun v c => 64 * v + bz c - 128) v
def lowTo : Nat → Int → Int
  | 0, v => v
  | k + 1, v => lowTo k (64 * v)
def highTo : Nat → Int → Int
  | 0, v => v
  | k + 1, v => highTo k (64 * v + 63)
def rangeB (n low high : Int) : Bool :=
  !((decide (55296 ≤ max low (leastZ n)) && decide (min high (mostZ n) ≤ 57343)) || decide (min high (mostZ n) < max low (leastZ n)))
def begB : List UInt8 → Bool
  | [] => false
  | a :: t => if leadN (bz a) = 0 ∨ leadN (bz a) < ((a :: t).length : Int) then false else
      if conts t then rangeB (leadN (bz a)) (lowTo (leadN (bz a) - ((a :: t).length : Int)).toNat (refV (leadV (bz a)) t)) (highTo (leadN (bz a) - ((a :: t).length : Int)).toNat (refV (leadV (bz a)) t)) else false
def begN (l : List UInt8) : Int := if begB l then (match l with | [] => 0 | a :: _ => leadN (bz a)) else 0
def begV (l : List UInt8) : Int := if begB l then (match l with | [] => 0 | a :: t => refV (leadV (bz a)) t) else 0

/-- The classes of first bytes. -/
theorem cls (x : Int) (h0 : 0 ≤ x) (h1 : x ≤ 255) :
    (x ≤ 127 ∧ leadN x = 1 ∧ leadV x = x ∧ lenZ x = 1) ∨ (128 ≤ x ∧ x ≤ 191 ∧ leadN x = 0 ∧ leadV x = 0 ∧ lenZ x = 0) ∨ (192 ≤ x ∧ x ≤ 193 ∧ leadN x = 2 ∧ leadV x = x - 192 ∧ lenZ x = 0) ∨
    (194 ≤ x ∧ x ≤ 223 ∧ leadN x = 2 ∧ leadV x = x - 192 ∧ lenZ x = 2) ∨ (224 ≤ x ∧ x ≤ 239 ∧ leadN x = 3 ∧ leadV x = x - 224 ∧ lenZ x = 3) ∨ (240 ≤ x ∧ x ≤ 244 ∧ leadN x = 4 ∧ leadV x = x - 240 ∧ lenZ x = 4) ∨
    (245 ≤ x ∧ x ≤ 247 ∧ leadN x = 4 ∧ leadV x = x - 240 ∧ lenZ x = 0) ∨ (248 ≤ x ∧ leadN x = 0 ∧ leadV x = 0 ∧ lenZ x = 0) := by
  have hh : x ≤ 127 ∨ (128 ≤ x ∧ x ≤ 191) ∨ (192 ≤ x ∧ x ≤ 193) ∨ (194 ≤ x ∧ x ≤ 223) ∨ (224 ≤ x ∧ x ≤ 239) ∨ (240 ≤ x ∧ x ≤ 244) ∨ (245 ≤ x ∧ x ≤ 247) ∨ 248 ≤ x := by omega
  have e1 : leadN x = if x < 128 then 1 else if x < 192 then 0 else if x < 224 then 2 else if x < 240 then 3 else if x < 248 then 4 else 0 := rfl
  have e2 : leadV x = if x < 128 then x else if x < 192 then 0 else if x < 224 then x - 192 else if x < 240 then x - 224 else if x < 248 then x - 240 else 0 := rfl
  have e3 : lenZ x = if x ≤ 127 then 1 else if x < 194 then 0 else if x ≤ 223 then 2 else if x ≤ 239 then 3 else if x ≤ 244 then 4 else 0 := rfl
  rcases hh with h | h | h | h | h | h | h | h
  · left; refine ⟨h, ?_, ?_, ?_⟩ <;> omega
  · right; left; refine ⟨h.1, h.2, ?_, ?_, ?_⟩ <;> omega
  · right; right; left; refine ⟨h.1, h.2, ?_, ?_, ?_⟩ <;> omega
  · right; right; right; left; refine ⟨h.1, h.2, ?_, ?_, ?_⟩ <;> omega
  · right; right; right; right; left; refine ⟨h.1, h.2, ?_, ?_, ?_⟩ <;> omega
  · right; right; right; right; right; left; refine ⟨h.1, h.2, ?_, ?_, ?_⟩ <;> omega
  · right; right; right; right; right; right; left; refine ⟨h.1, h.2, ?_, ?_, ?_⟩ <;> omega
  · right; right; right; right; right; right; right; refine ⟨h, ?_, ?_, ?_⟩ <;> omega

theorem contB_iff (f i c : Int) : contB f i c = true ↔ ((i = 1 ∧ f = 224 → 160 ≤ c) ∧ (i = 1 ∧ f = 240 → 144 ≤ c) ∧ 128 ≤ c ∧ (i = 1 ∧ f = 237 → c ≤ 159) ∧ (i = 1 ∧ f = 244 → c ≤ 143) ∧ c ≤ 191) := by
  unfold contB
  simp only [Bool.and_eq_true, decide_eq_true_eq]
  repeat' split
  all_goals omega

theorem rangeB_iff (n low high : Int) : rangeB n low high = true ↔ ¬ ((55296 ≤ max low (leastZ n) ∧ min high (mostZ n) ≤ 57343) ∨ min high (mostZ n) < max low (leastZ n)) := by
  unfold rangeB
  simp only [Bool.not_eq_true', Bool.or_eq_false_iff, Bool.and_eq_false_iff, decide_eq_false_iff_not]
  omega
theorem least2 : leastZ 2 = 128 := rfl
theorem least1 : leastZ 1 = 0 := rfl
theorem least3 : leastZ 3 = 2048 := rfl
theorem least4 : leastZ 4 = 65536 := rfl
theorem most1 : mostZ 1 = 127 := rfl
theorem most2 : mostZ 2 = 2047 := rfl
theorem most3 : mostZ 3 = 65535 := rfl
theorem most4 : mostZ 4 = 1114111 := rfl

theorem beg1 (a : UInt8) : begB [a] = true ↔ lenZ (bz a) ≠ 0 := by
  have h0 := bz_lo a; have h1 := bz_hi a
  simp only [begB, conts, List.all_nil, refV, List.foldl_nil, List.length_cons, List.length_nil, if_true]
  rcases cls (bz a) h0 h1 with h | h | h | h | h | h | h | h <;>
    (generalize bz a = x at *; obtain ⟨g, g1⟩ := h; simp only [g1]; simp [rangeB_iff, lowTo, highTo, least1, least2, least3, least4, most1, most2, most3, most4]) <;> omega

theorem beg2 (a b : UInt8) : begB [a, b] = true ↔ 2 ≤ lenZ (bz a) ∧ contB (bz a) 1 (bz b) = true := by
  have h0 := bz_lo a; have h1 := bz_hi a
  have h2 := bz_lo b; have h3 := bz_hi b
  rw [contB_iff]
  simp only [begB, conts, List.all_cons, List.all_nil, refV, List.foldl_cons, List.foldl_nil, List.length_cons, List.length_nil, Bool.and_true]
  by_cases hb : 128 ≤ bz b ∧ bz b ≤ 191
  · obtain ⟨hb1, hb2⟩ := hb
    rcases cls (bz a) h0 h1 with h | h | h | h | h | h | h | h <;>
      (generalize bz a = x at *; generalize bz b = y at *; obtain ⟨g, g1⟩ := h; simp only [g1]; simp [rangeB_iff, lowTo, highTo, least2, least3, least4, most2, most3, most4, hb1, hb2]) <;> omega
  · have hb' : (decide (128 ≤ bz b) && decide (bz b ≤ 191)) = false := by
      rw [Bool.eq_false_iff]; simp only [ne_eq, Bool.and_eq_true, decide_eq_true_eq]; exact hb
    rw [hb']
    simp; omega

theorem beg3 (a b c : UInt8) : begB [a, b, c] = true ↔ 3 ≤ lenZ (bz a) ∧ contB (bz a) 1 (bz b) = true ∧ contB (bz a) 2 (bz c) = true := by
  have h0 := bz_lo a; have h1 := bz_hi a
  have h2 := bz_lo b; have h3 := bz_hi b
  have h4 := bz_lo c; have h5 := bz_hi c
  rw [contB_iff, contB_iff]
  simp only [begB, conts, List.all_cons, List.all_nil, refV, List.foldl_cons, List.foldl_nil, List.length_cons, List.length_nil, Bool.and_true]
  by_cases hb : (128 ≤ bz b ∧ bz b ≤ 191) ∧ (128 ≤ bz c ∧ bz c ≤ 191)
  · obtain ⟨⟨hb1, hb2⟩, hc1, hc2⟩ := hb
    rcases cls (bz a) h0 h1 with h | h | h | h | h | h | h | h <;>
      (generalize bz a = x at *; generalize bz b = y at *; generalize bz c = z at *; obtain ⟨g, g1⟩ := h; simp only [g1]; simp [rangeB_iff, lowTo, highTo, least3, least4, most3, most4, hb1, hb2, hc1, hc2]) <;> omega
  · have hb' : (decide (128 ≤ bz b) && decide (bz b ≤ 191) && (decide (128 ≤ bz c) && decide (bz c ≤ 191))) = false := by
      rw [Bool.eq_false_iff]; simp only [ne_eq, Bool.and_eq_true, decide_eq_true_eq]; exact hb
    rw [hb']
    simp; omega

theorem beg4 (a b c d : UInt8) : begB [a, b, c, d] = true ↔ 4 ≤ lenZ (bz a) ∧ contB (bz a) 1 (bz b) = true ∧ contB (bz a) 2 (bz c) = true ∧ contB (bz a) 3 (bz d) = true := by
  have h0 := bz_lo a; have h1 := bz_hi a
  have h2 := bz_lo b; have h3 := bz_hi b
  have h4 := bz_lo c; have h5 := bz_hi c
  have h6 := bz_lo d; have h7 := bz_hi d
  rw [contB_iff, contB_iff, contB_iff]
  simp only [begB, conts, List.all_cons, List.all_nil, refV, List.foldl_cons, List.foldl_nil, List.length_cons, List.length_nil, Bool.and_true]
  by_cases hb : (128 ≤ bz b ∧ bz b ≤ 191) ∧ (128 ≤ bz c ∧ bz c ≤ 191) ∧ (128 ≤ bz d ∧ bz d ≤ 191)
  · obtain ⟨⟨hb1, hb2⟩, ⟨hc1, hc2⟩, hd1, hd2⟩ := hb
    rcases cls (bz a) h0 h1 with h | h | h | h | h | h | h | h <;>
      (generalize bz a = x at *; generalize bz b = y at *; generalize bz c = z at *; generalize bz d = u at *; obtain ⟨g, g1⟩ := h; simp only [g1]; simp [rangeB_iff, lowTo, highTo, least4, most4, hb1, hb2, hc1, hc2, hd1, hd2]) <;> omega
  · have hb' : (decide (128 ≤ bz b) && decide (bz b ≤ 191) && (decide (128 ≤ bz c) && decide (bz c ≤ 191) && (decide (128 ≤ bz d) && decide (bz d ≤ 191)))) = false := by
      rw [Bool.eq_false_iff]; simp only [ne_eq, Bool.and_eq_true, decide_eq_true_eq]; exact hb
    rw [hb']
    simp; omega
end Go.Proofs.YtalommgkigacpaaDoor

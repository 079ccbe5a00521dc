/- Plain lists of bytes: the reference's First is Decode; what Decode gives, byte by byte. No program in sight. -/
import Derived.Test.YtalommgkigacpaaDoorPlain
namespace Go.Proofs.YtalommgkigacpaaDoor

def firE (l : List UInt8) : Int :=
  if begB (l.take 1) then (if begN (l.take 1) ≤ l.length then (if begB (l.take (begN (l.take 1)).toNat) then 0 else 3) else if begB l then 23 else 3) else 6
def firN (l : List UInt8) : Int :=
  if begB (l.take 1) then (if begN (l.take 1) ≤ l.length then (if begB (l.take (begN (l.take 1)).toNat) then begN (l.take 1) else 0) else 0) else 0
def firR (l : List UInt8) : Int :=
  if begB (l.take 1) then (if begN (l.take 1) ≤ l.length then (if begB (l.take (begN (l.take 1)).toNat) then begV (l.take (begN (l.take 1)).toNat) else 0) else 0) else 0

theorem lead_len (x : Int) (h0 : 0 ≤ x) (h1 : x ≤ 255) (h : lenZ x ≠ 0) : leadN x = lenZ x := by
  rcases cls x h0 h1 with h | h | h | h | h | h | h | h <;> omega
theorem len_vals (x : Int) : lenZ x = 0 ∨ lenZ x = 1 ∨ lenZ x = 2 ∨ lenZ x = 3 ∨ lenZ x = 4 := by
  unfold lenZ; repeat' split
  all_goals omega

theorem goOn_nil (f size : Int) (i : Nat) : goOn f size i [] = i := by simp [goOn]
theorem goOn_yes (f size : Int) (i : Nat) (c : UInt8) (t : List UInt8) (h1 : (i : Int) < size) (h2 : contB f i (bz c) = true) : goOn f size i (c :: t) = goOn f size (i + 1) t := by
  simp [goOn, h1, h2]
theorem goOn_no (f size : Int) (i : Nat) (c : UInt8) (t : List UInt8) (h2 : contB f i (bz c) = false) : goOn f size i (c :: t) = i := by
  simp [goOn, h2]
theorem goOn_full (f size : Int) (i : Nat) (l : List UInt8) (h1 : ¬ (i : Int) < size) : goOn f size i l = i := by
  cases l <;> simp [goOn, h1]
theorem goOn_ge (f size : Int) : ∀ (l : List UInt8) (i : Nat), i ≤ goOn f size i l
  | [], i => by simp [goOn]
  | c :: t, i => by
    simp only [goOn]
    split
    · have := goOn_ge f size t (i + 1); omega
    · omega
theorem goOn_le (f size : Int) : ∀ (l : List UInt8) (i : Nat), goOn f size i l ≤ i + l.length
  | [], i => by simp [goOn]
  | c :: t, i => by
    simp only [goOn, List.length_cons]
    split
    · have := goOn_le f size t (i + 1); omega
    · omega
theorem goOn_size (f size : Int) : ∀ (l : List UInt8) (i : Nat), (i : Int) ≤ size → (goOn f size i l : Int) ≤ size
  | [], i, h => by simpa [goOn] using h
  | c :: t, i, h => by
    simp only [goOn]
    split
    · rename_i g
      simp only [Bool.and_eq_true, decide_eq_true_eq] at g
      exact goOn_size f size t (i + 1) (by omega)
    · exact h

theorem measN_le (l : List UInt8) : measN l ≤ l.length := by
  cases l with
  | nil => simp [measN]
  | cons a t =>
    simp only [measN, List.length_cons]
    split
    · omega
    · have := goOn_le (bz a) (lenZ (bz a)) t 1; omega
theorem measN_pos (l : List UInt8) (h : measB l = true) : 1 ≤ measN l := by
  cases l with
  | nil => simp [measB] at h
  | cons a t =>
    simp only [measN, measB] at *
    split
    · rename_i g; simp [g] at h
    · exact goOn_ge _ _ _ _
theorem measN_le4 (l : List UInt8) : measN l ≤ 4 := by
  cases l with
  | nil => simp [measN]
  | cons a t =>
    simp only [measN]
    split
    · omega
    · rename_i g
      have h := goOn_size (bz a) (lenZ (bz a)) t 1 (by have := len_vals (bz a); omega)
      have := len_vals (bz a)
      omega

/-- The reference's answers at the first byte. -/
theorem begN1 (a : UInt8) : begN [a] = lenZ (bz a) := by
  unfold begN
  by_cases h : lenZ (bz a) = 0
  · rw [if_neg (by rw [beg1]; simpa using h), h]
  · rw [if_pos (by rw [beg1]; exact h)]
    exact lead_len _ (bz_lo a) (bz_hi a) h

theorem begV1 (a : UInt8) (h : lenZ (bz a) = 1) : begV [a] = bz a := by
  unfold begV
  rw [if_pos (by rw [beg1]; omega)]
  simp only [refV, List.foldl_nil]
  have h0 := bz_lo a; have h1 := bz_hi a
  rcases cls (bz a) h0 h1 with h | h | h | h | h | h | h | h <;> omega

theorem begV2 (a b : UInt8) (h : lenZ (bz a) = 2) (hb : contB (bz a) 1 (bz b) = true) : begV [a, b] = val [a, b] := by
  unfold begV
  rw [if_pos (by rw [beg2]; exact ⟨by omega, hb⟩)]
  rw [contB_iff] at hb
  have h0 := bz_lo a; have h1 := bz_hi a
  simp only [refV, List.foldl_nil, List.foldl_cons, val, valFold, List.length_nil]
  rcases cls (bz a) h0 h1 with h | h | h | h | h | h | h | h <;> simp <;> omega
theorem begV3 (a b c : UInt8) (h : lenZ (bz a) = 3) (hb : contB (bz a) 1 (bz b) = true) (hc : contB (bz a) 2 (bz c) = true) : begV [a, b, c] = val [a, b, c] := by
  unfold begV
  rw [if_pos (by rw [beg3]; exact ⟨by omega, hb, hc⟩)]
  rw [contB_iff] at hb hc
  have h0 := bz_lo a; have h1 := bz_hi a
  simp only [refV, List.foldl_nil, List.foldl_cons, val, valFold, List.length_nil, List.length_cons]
  rcases cls (bz a) h0 h1 with h | h | h | h | h | h | h | h <;> simp <;> omega
theorem begV4 (a b c d : UInt8) (h : lenZ (bz a) = 4) (hb : contB (bz a) 1 (bz b) = true) (hc : contB (bz a) 2 (bz c) = true) (hd : contB (bz a) 3 (bz d) = true) : begV [a, b, c, d] = val [a, b, c, d] := by
  unfold begV
  rw [if_pos (by rw [beg4]; exact ⟨by omega, hb, hc, hd⟩)]
  rw [contB_iff] at hb hc hd
  have h0 := bz_lo a; have h1 := bz_hi a
  simp only [refV, List.foldl_nil, List.foldl_cons, val, valFold, List.length_nil, List.length_cons]
  rcases cls (bz a) h0 h1 with h | h | h | h | h | h | h | h <;> simp <;> omega

/-- How long the lists of the reference's tests are asked for, against 'measN'. -/
theorem beg_take (a : UInt8) (t : List UInt8) (k : Nat) (h1 : 1 ≤ k) (h2 : k ≤ t.length + 1) (h4 : k ≤ 4) : begB ((a :: t).take k) = true ↔ k ≤ measN (a :: t) := by
  have hle : ∀ (l : List UInt8) (i : Nat), i ≤ goOn (bz a) (lenZ (bz a)) i l := fun l i => goOn_ge _ _ l i
  by_cases hz : lenZ (bz a) = 0
  · have e : measN (a :: t) = 0 := by simp [measN, hz]
    rw [e]
    constructor
    · intro h
      exfalso
      rcases (show k = 1 ∨ k = 2 ∨ k = 3 ∨ k = 4 by omega) with rfl | rfl | rfl | rfl
      · rw [show (a :: t).take 1 = [a] from rfl, beg1] at h; exact h hz
      · rcases t with _ | ⟨b, t⟩
        · simp at h2
        rw [show (a :: b :: t).take 2 = [a, b] from rfl, beg2] at h; omega
      · rcases t with _ | ⟨b, _ | ⟨c, t⟩⟩
        · simp at h2
        · simp at h2
        rw [show (a :: b :: c :: t).take 3 = [a, b, c] from rfl, beg3] at h; omega
      · rcases t with _ | ⟨b, _ | ⟨c, _ | ⟨d, t⟩⟩⟩
        · simp at h2
        · simp at h2
        · simp at h2
        rw [show (a :: b :: c :: d :: t).take 4 = [a, b, c, d] from rfl, beg4] at h; omega
    · intro h; omega
  · have e : measN (a :: t) = goOn (bz a) (lenZ (bz a)) 1 t := by simp [measN, hz]
    have hv := len_vals (bz a)
    rw [e]
    rcases (show k = 1 ∨ k = 2 ∨ k = 3 ∨ k = 4 by omega) with rfl | rfl | rfl | rfl
    · rw [show (a :: t).take 1 = [a] from rfl, beg1]; exact ⟨fun _ => hle _ _, fun _ => hz⟩
    · rcases t with _ | ⟨b, t⟩
      · simp at h2
      rw [show (a :: b :: t).take 2 = [a, b] from rfl, beg2]
      by_cases hs : (1 : Int) < lenZ (bz a)
      · cases hb : contB (bz a) 1 (bz b) with
        | false => rw [goOn_no _ _ _ _ _ (by simpa using hb)]; simp
        | true => rw [goOn_yes _ _ _ _ _ (by simpa using hs) (by simpa using hb)]; have := hle t 2; simp; omega
      · rw [goOn_full _ _ _ _ (by simpa using hs)]; omega
    · rcases t with _ | ⟨b, _ | ⟨c, t⟩⟩
      · simp at h2
      · simp at h2
      rw [show (a :: b :: c :: t).take 3 = [a, b, c] from rfl, beg3]
      by_cases hs : (1 : Int) < lenZ (bz a)
      · cases hb : contB (bz a) 1 (bz b) with
        | false => rw [goOn_no _ _ _ _ _ (by simpa using hb)]; simp
        | true =>
          rw [goOn_yes _ _ _ _ _ (by simpa using hs) (by simpa using hb)]
          by_cases hs2 : (2 : Int) < lenZ (bz a)
          · cases hc : contB (bz a) 2 (bz c) with
            | false => rw [goOn_no _ _ _ _ _ (by simpa using hc)]; simp
            | true => rw [goOn_yes _ _ _ _ _ (by simpa using hs2) (by simpa using hc)]; have := hle t 3; simp; omega
          · rw [goOn_full _ _ _ _ (by simpa using hs2)]; simp; omega
      · rw [goOn_full _ _ _ _ (by simpa using hs)]; omega
    · rcases t with _ | ⟨b, _ | ⟨c, _ | ⟨d, t⟩⟩⟩
      · simp at h2
      · simp at h2
      · simp at h2
      rw [show (a :: b :: c :: d :: t).take 4 = [a, b, c, d] from rfl, beg4]
      by_cases hs : (1 : Int) < lenZ (bz a)
      · cases hb : contB (bz a) 1 (bz b) with
        | false => rw [goOn_no _ _ _ _ _ (by simpa using hb)]; simp
        | true =>
          rw [goOn_yes _ _ _ _ _ (by simpa using hs) (by simpa using hb)]
          by_cases hs2 : (2 : Int) < lenZ (bz a)
          · cases hc : contB (bz a) 2 (bz c) with
            | false => rw [goOn_no _ _ _ _ _ (by simpa using hc)]; simp
            | true =>
              rw [goOn_yes _ _ _ _ _ (by simpa using hs2) (by simpa using hc)]
              by_cases hs3 : (3 : Int) < lenZ (bz a)
              · cases hd : contB (bz a) 3 (bz d) with
                | false => rw [goOn_no _ _ _ _ _ (by simpa using hd)]; simp
                | true => rw [goOn_yes _ _ _ _ _ (by simpa using hs3) (by simpa using hd)]; have := hle t 4; simp; omega
              · rw [goOn_full _ _ _ _ (by simpa using hs3)]; simp; omega
          · rw [goOn_full _ _ _ _ (by simpa using hs2)]; simp; omega
      · rw [goOn_full _ _ _ _ (by simpa using hs)]; omega

theorem measB_cons (a : UInt8) (t : List UInt8) : measB (a :: t) = true ↔ lenZ (bz a) ≠ 0 ∧ (measN (a :: t) : Int) = lenZ (bz a) := by
  by_cases hz : lenZ (bz a) = 0 <;> simp [measB, measN, hz]

/-- The value of a whole encoding. -/
theorem beg_val (a : UInt8) (t : List UInt8) (h : measB (a :: t) = true) : begV ((a :: t).take (measN (a :: t))) = val ((a :: t).take (measN (a :: t))) := by
  have hb : begB ((a :: t).take (measN (a :: t))) = true := (beg_take a t _ (measN_pos _ h) (measN_le _) (measN_le4 _)).2 (Nat.le_refl _)
  rw [measB_cons] at h
  obtain ⟨hz, hn⟩ := h
  have hle := measN_le (a :: t)
  have h4 := measN_le4 (a :: t)
  generalize measN (a :: t) = k at *
  rcases (show k = 0 ∨ k = 1 ∨ k = 2 ∨ k = 3 ∨ k = 4 by omega) with rfl | rfl | rfl | rfl | rfl
  · simp at hn; omega
  · exact begV1 a (by simpa using hn.symm)
  · rcases t with _ | ⟨b, t⟩
    · simp at hle
    rw [show (a :: b :: t).take 2 = [a, b] from rfl] at *; exact begV2 a b (by simpa using hn.symm) ((beg2 a b).1 hb).2
  · rcases t with _ | ⟨b, _ | ⟨c, t⟩⟩
    · simp at hle
    · simp at hle
    rw [show (a :: b :: c :: t).take 3 = [a, b, c] from rfl] at *; exact begV3 a b c (by simpa using hn.symm) ((beg3 a b c).1 hb).2.1 ((beg3 a b c).1 hb).2.2
  · rcases t with _ | ⟨b, _ | ⟨c, _ | ⟨d, t⟩⟩⟩
    · simp at hle
    · simp at hle
    · simp at hle
    rw [show (a :: b :: c :: d :: t).take 4 = [a, b, c, d] from rfl] at *; exact begV4 a b c d (by simpa using hn.symm) ((beg4 a b c d).1 hb).2.1 ((beg4 a b c d).1 hb).2.2.1 ((beg4 a b c d).1 hb).2.2.2

theorem first_dec (l : List UInt8) (hl : l ≠ []) : firE l = decE l ∧ firN l = decN l ∧ firR l = decR l := by
  match l, hl with
  | a :: t, _ =>
    have e1 : (a :: t).take 1 = [a] := rfl
    unfold firE firN firR decE decN decR
    rw [e1, begN1]
    simp only [reduceCtorEq, if_false]
    by_cases hz : lenZ (bz a) = 0
    · have hb : ¬ begB [a] = true := by rw [beg1]; simpa using hz
      have hm : ¬ measB (a :: t) = true := by rw [measB_cons]; simp [hz]
      have hn : measN (a :: t) = 0 := by simp [measN, hz]
      simp only [if_neg hb, if_neg hm, if_pos hn]
      simp
    · have hb : begB [a] = true := by rw [beg1]; exact hz
      simp only [if_pos hb]
      have hv := len_vals (bz a)
      have hpos : 1 ≤ measN (a :: t) := (beg_take a t 1 (by omega) (by omega) (by omega)).1 (by rw [e1]; exact hb)
      have hsz : (measN (a :: t) : Int) ≤ lenZ (bz a) := by
        have : measN (a :: t) = goOn (bz a) (lenZ (bz a)) 1 t := by simp [measN, hz]
        rw [this]; exact goOn_size _ _ _ _ (by omega)
      have h0 : ¬ measN (a :: t) = 0 := by omega
      simp only [if_neg h0]
      by_cases hc : lenZ (bz a) ≤ ((a :: t).length : Int)
      · have hk := beg_take a t (lenZ (bz a)).toNat (by omega) (by simp at hc; omega) (by omega)
        simp only [if_pos hc]
        by_cases hw : measB (a :: t) = true
        · have hm := (measB_cons a t).1 hw
          have ht : (lenZ (bz a)).toNat = measN (a :: t) := by omega
          have hbb : begB ((a :: t).take (lenZ (bz a)).toNat) = true := hk.2 (by omega)
          simp only [if_pos hbb, if_pos hw]
          refine ⟨trivial, hm.2.symm, ?_⟩
          rw [ht]; exact beg_val a t hw
        · have hm : ¬ (measN (a :: t) : Int) = lenZ (bz a) := fun h => hw ((measB_cons a t).2 ⟨hz, h⟩)
          have hbb : ¬ begB ((a :: t).take (lenZ (bz a)).toNat) = true := fun h => by have := hk.1 h; omega
          have hne : ¬ measN (a :: t) = (a :: t).length := by omega
          simp only [if_neg hbb, if_neg hw, if_neg hne]
          simp
      · have hw : ¬ measB (a :: t) = true := by
          rw [measB_cons]; have := measN_le (a :: t); simp only [List.length_cons] at *; omega
        simp only [if_neg hc, if_neg hw]
        have hk := beg_take a t (a :: t).length (by simp) (by simp) (by simp only [List.length_cons] at *; omega)
        rw [List.take_length] at hk
        have hle := measN_le (a :: t)
        by_cases hf : begB (a :: t) = true
        · have : measN (a :: t) = (a :: t).length := by have := hk.1 hf; omega
          simp only [if_pos hf, if_pos this]; simp
        · have : ¬ measN (a :: t) = (a :: t).length := fun h => hf (hk.2 (by omega))
          simp only [if_neg hf, if_neg this]; simp
end Go.Proofs.YtalommgkigacpaaDoor

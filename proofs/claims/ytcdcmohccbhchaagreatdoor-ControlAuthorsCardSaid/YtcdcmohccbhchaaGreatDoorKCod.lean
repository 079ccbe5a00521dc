/- Words to values and back (plain): message identifiers, authors, numbers, names. -/
import Derived.Test.YtcdcmohccbhchaaGreatDoorKPar
namespace Go.Proofs.YtcdcmohccbhchaaGreatDoor
open Go.RowKit

/-! ### message identifiers -/
theorem midT_len (i : Id) : (midT i).length = 71 := by
  unfold midT; rw [List.length_cons, List.length_append, hexT_len]; simp [midTail]
theorem midT_digits (i : Id) : ((midT i).drop 1).take 64 = hexT i.toList := by
  unfold midT
  rw [List.drop_succ_cons, List.drop_zero, List.take_left' (by rw [hexT_len]; simp)]
theorem midT_tail (i : Id) : (midT i).drop 65 = midTail := by
  unfold midT
  rw [List.drop_succ_cons, List.drop_left' (by rw [hexT_len]; simp)]
theorem midB_midT (i : Id) : midB (midT i) = true := by
  unfold midB
  rw [midT_len, midT_digits, midT_tail, hexT_hex]; rfl
theorem midV_midT (i : Id) : midV (midT i) = i := by
  unfold midV
  rw [if_pos (midB_midT i), midT_digits, unhex_hexT, vecOf_self]
theorem midB_iff {w : Str} (h : midB w = true) : w.length = 71 ∧ w = 60 :: (((w.drop 1).take 64) ++ midTail) ∧ ((w.drop 1).take 64).all hexB = true := by
  simp only [midB, Bool.and_eq_true, decide_eq_true_eq, beq_iff_eq] at h
  obtain ⟨⟨⟨h1, h2⟩, h3⟩, h4⟩ := h
  refine ⟨h1, ?_, h3⟩
  cases w with
  | nil => simp at h1
  | cons a l =>
    have ha : a = 60 := h2
    rw [ha, List.drop_succ_cons, List.drop_zero]
    rw [List.drop_succ_cons] at h4
    rw [← h4, List.take_append_drop]
theorem midT_midV {w : Str} (h : midB w = true) : midT (midV w) = w := by
  obtain ⟨h1, h2, h3⟩ := midB_iff h
  have hl : ((w.drop 1).take 64).length = 2 * 32 := by rw [List.length_take, List.length_drop]; omega
  unfold midV midT
  rw [if_pos h, vecOf_toList (unhex_len 32 _ hl), hexT_unhex 32 _ hl h3]
  exact h2.symm

/-! ### authors -/
theorem takeWhile_all {p : UInt8 → Bool} : ∀ {s : Str}, s.all p = true → s.takeWhile p = s
  | [], _ => rfl
  | c :: s, h => by
    simp only [List.all_cons, Bool.and_eq_true] at h
    rw [List.takeWhile_cons, if_pos h.1, takeWhile_all h.2]
theorem takeWhile_le (p : UInt8 → Bool) : ∀ s : Str, (s.takeWhile p).length ≤ s.length
  | [] => Nat.le_refl _
  | c :: s => by
    rw [List.takeWhile_cons]
    split
    · have := takeWhile_le p s; simp; omega
    · simp
theorem all_takeWhile {p : UInt8 → Bool} : ∀ {s : Str}, s.length ≤ (s.takeWhile p).length → s.all p = true
  | [], _ => rfl
  | c :: s, h => by
    rw [List.takeWhile_cons] at h
    split at h
    · rename_i hc
      rw [List.all_cons, hc, all_takeWhile (by simpa using h)]; rfl
    · simp at h
theorem autErr_zero {s : Str} : (autErr s).2 = 0 ↔ s.length = 32 ∧ s.all hexB = true := by
  unfold autErr
  have hle := takeWhile_le hexB s
  constructor
  · intro h
    by_cases h1 : badAt s < min s.length 32
    · rw [if_pos h1] at h; cases h
    · rw [if_neg h1] at h
      by_cases h2 : s.length < 32
      · rw [if_pos h2] at h; cases h
      · rw [if_neg h2] at h
        by_cases h3 : 32 < s.length
        · rw [if_pos h3] at h; cases h
        · exact ⟨by omega, all_takeWhile (by unfold badAt at h1; omega)⟩
  · rintro ⟨h1, h2⟩
    have : badAt s = 32 := by unfold badAt; rw [takeWhile_all h2, h1]
    rw [if_neg (by omega), if_neg (by omega), if_neg (by omega)]
def autT (a : Aut) : Str := hexT a.toList
theorem autT_len (a : Aut) : (autT a).length = 32 := by unfold autT; rw [hexT_len]; simp
theorem autErr_autT (a : Aut) : (autErr (autT a)).2 = 0 := autErr_zero.2 ⟨autT_len a, hexT_hex _⟩
theorem autErr_autT' (a : Aut) : autErr (autT a) = (0, 0) := by
  have h := autErr_zero.1 (autErr_autT a)
  have : badAt (autT a) = 32 := by unfold badAt; rw [takeWhile_all h.2, h.1]
  unfold autErr
  rw [if_neg (by omega), if_neg (by omega), if_neg (by omega)]
theorem autOf_autT (a : Aut) : autOf (autT a) = a := by
  unfold autOf
  rw [if_pos (autErr_autT a)]; unfold autT; rw [unhex_hexT, vecOf_self]
theorem autT_autOf {s : Str} (h : (autErr s).2 = 0) : autT (autOf s) = s := by
  obtain ⟨h1, h2⟩ := autErr_zero.1 h
  unfold autOf autT
  rw [if_pos h, vecOf_toList (unhex_len 16 s (by omega)), hexT_unhex 16 s (by omega) h2]
end Go.Proofs.YtcdcmohccbhchaaGreatDoor

/- Numbers in decimal (plain): the value of digits, which digits denote a number, and back. -/
import Derived.Lib.ItoaNum
import Derived.Test.YtcdcmohccbhchaaGreatDoorKPl
namespace Go.Proofs.YtcdcmohccbhchaaGreatDoor

def isD (c : UInt8) : Bool := decide (48 ≤ c.toNat) && decide (c.toNat ≤ 57)
/-- The value of digits. -/
def numL (s : Str) : Nat := s.foldl (fun n c => 10 * n + (c.toNat - 48)) 0
theorem numL_snoc (s : Str) (c : UInt8) : numL (s ++ [c]) = 10 * numL s + (c.toNat - 48) := by simp [numL]
/-- A number of 1 to 7 digits without superfluous zeros. -/
def numB (s : Str) : Bool := decide (1 ≤ s.length) && decide (s.length ≤ 7) && !(decide (1 < s.length) && s.headD 0 == 48) && s.all isD

theorem dig_nat (d : Nat) (h : d < 10) : (UInt8.ofNat (48 + d)).toNat = 48 + d := by
  rw [UInt8.toNat_ofNat']; omega
theorem dec_small {u : Nat} (h : u < 10) : Lib.decDigits u = [UInt8.ofNat (48 + u)] := Lib.decDigits_one h
theorem dec_big {u : Nat} (h : ¬ u < 10) : Lib.decDigits u = Lib.decDigits (u / 10) ++ [UInt8.ofNat (48 + u % 10)] := by
  rw [Lib.decDigits, dif_neg h]
theorem numL_dec : ∀ (n u : Nat), u ≤ n → numL (Lib.decDigits u) = u
  | n, u, hu => by
    by_cases h : u < 10
    · rw [dec_small h]; show 10 * 0 + ((UInt8.ofNat (48 + u)).toNat - 48) = u; rw [dig_nat u h]; omega
    · cases n with
      | zero => omega
      | succ n =>
        rw [dec_big h, numL_snoc, numL_dec n (u / 10) (by omega), dig_nat _ (by omega)]; omega
theorem isD_dig (d : Nat) (h : d < 10) : isD (UInt8.ofNat (48 + d)) = true := by unfold isD; rw [dig_nat d h]; simp; omega
theorem dec_isD : ∀ (n u : Nat), u ≤ n → (Lib.decDigits u).all isD = true
  | n, u, hu => by
    by_cases h : u < 10
    · rw [dec_small h, List.all_cons, isD_dig u h]; rfl
    · cases n with
      | zero => omega
      | succ n => rw [dec_big h, List.all_append, dec_isD n (u / 10) (by omega), List.all_cons, isD_dig (u % 10) (by omega)]; rfl
theorem dec_ne (u : Nat) : Lib.decDigits u ≠ [] := by
  by_cases h : u < 10
  · rw [dec_small h]; simp
  · rw [dec_big h]; simp
theorem headD_app {a b : Str} (h : a ≠ []) : (a ++ b).headD 0 = a.headD 0 := by cases a with | nil => exact absurd rfl h | cons x l => rfl
theorem dec_head : ∀ (n u : Nat), u ≤ n → 1 ≤ u → ((Lib.decDigits u).headD 0).toNat ≠ 48
  | n, u, hu, h1 => by
    by_cases h : u < 10
    · rw [dec_small h]; show (UInt8.ofNat (48 + u)).toNat ≠ 48; rw [dig_nat u h]; omega
    · cases n with
      | zero => omega
      | succ n => rw [dec_big h, headD_app (dec_ne _)]; exact dec_head n (u / 10) (by omega) (by omega)
theorem dec_len1 {u : Nat} (h : u < 10) : (Lib.decDigits u).length = 1 := by rw [dec_small h]; rfl
theorem dec_len (k u : Nat) (h : u < 10 ^ (k + 1)) : (Lib.decDigits u).length ≤ k + 1 := by
  induction k generalizing u with
  | zero => rw [dec_len1 (by simpa using h)]; omega
  | succ k ih =>
    by_cases h10 : u < 10
    · rw [dec_len1 h10]; omega
    · rw [dec_big h10, List.length_append]
      have := ih (u / 10) (by rw [Nat.pow_succ] at h; omega)
      simp; omega
theorem numB_dec {u : Nat} (h : u < 10000000) : numB (Lib.decDigits u) = true := by
  unfold numB
  have h1 : 1 ≤ (Lib.decDigits u).length := by cases e : Lib.decDigits u with | nil => exact absurd e (dec_ne u) | cons a l => simp
  have h2 := dec_len 6 u (by simpa using h)
  rw [dec_isD u u (Nat.le_refl _)]
  by_cases h10 : u < 10
  · simp [dec_len1 h10]
  · have h3 := dec_head u u (Nat.le_refl _) (by omega)
    have h4 : ((Lib.decDigits u).headD 0 == 48) = false := by
      rw [beq_eq_false_iff_ne]; intro e; rw [e] at h3; exact h3 rfl
    rw [h4]; simp; omega
/-- Digits without superfluous zeros are the digits of their value. -/
theorem dec_numL (s : Str) (hs : s ≠ []) (hd : s.all isD = true) (h0 : s.length = 1 ∨ (s.headD 0).toNat ≠ 48) : Lib.decDigits (numL s) = s ∧ ((s.headD 0).toNat ≠ 48 → 1 ≤ numL s) := by
  have gen : ∀ (n : Nat) (s : Str), s.length ≤ n → s ≠ [] → s.all isD = true → (s.length = 1 ∨ (s.headD 0).toNat ≠ 48) → Lib.decDigits (numL s) = s ∧ ((s.headD 0).toNat ≠ 48 → 1 ≤ numL s) := by
    intro n
    induction n with
    | zero => intro s h hs; exact absurd (List.length_eq_zero_iff.1 (by omega)) hs
    | succ n ih =>
      intro s hn hs hd h0
      rcases List.eq_nil_or_concat s with rfl | ⟨t, c, rfl⟩
      · exact absurd rfl hs
      · rw [List.concat_eq_append] at *
        rw [List.all_append, Bool.and_eq_true] at hd
        have hc : 48 ≤ c.toNat ∧ c.toNat ≤ 57 := by simpa [isD] using hd.2
        have ec : UInt8.ofNat (48 + (c.toNat - 48)) = c := by apply UInt8.toNat_inj.1; rw [dig_nat _ (by omega)]; omega
        rw [numL_snoc]
        by_cases ht : t = []
        · subst ht
          refine ⟨?_, fun h => ?_⟩
          · show Lib.decDigits (10 * 0 + (c.toNat - 48)) = [c]
            rw [Nat.mul_zero, Nat.zero_add, dec_small (by omega), ec]
          · have h : c.toNat ≠ 48 := h
            show 1 ≤ 10 * 0 + (c.toNat - 48); omega
        · have hl : 1 ≤ t.length := by cases t with | nil => exact absurd rfl ht | cons a l => simp
          have hh : (t.headD 0).toNat ≠ 48 := by
            rcases h0 with h0 | h0
            · rw [List.length_append, List.length_singleton] at h0; omega
            · rwa [headD_app ht] at h0
          obtain ⟨e1, e2⟩ := ih t (by simp at hn; omega) ht hd.1 (.inr hh)
          have h1 := e2 hh
          refine ⟨?_, fun _ => by omega⟩
          rw [dec_big (by omega), show (10 * numL t + (c.toNat - 48)) / 10 = numL t by omega, show (10 * numL t + (c.toNat - 48)) % 10 = c.toNat - 48 by omega, e1, ec]
  exact gen s.length s (Nat.le_refl _) hs hd h0
theorem numB_back {s : Str} (h : numB s = true) : Lib.decDigits (numL s) = s := by
  simp only [numB, Bool.and_eq_true, decide_eq_true_eq] at h
  obtain ⟨⟨⟨h1, _⟩, h3⟩, h4⟩ := h
  refine (dec_numL s (by intro e; rw [e] at h1; simp at h1) h4 ?_).1
  by_cases h : s.length = 1
  · exact .inl h
  · right
    have : (s.headD 0 == 48) = false := by simpa [show 1 < s.length by omega] using h3
    intro e
    rw [beq_eq_false_iff_ne] at this
    exact this (UInt8.toNat_inj.1 (by rw [e]; rfl))
theorem numL_lt : ∀ (s : Str), s.all isD = true → numL s < 10 ^ s.length := by
  intro s h
  have gen : ∀ (n : Nat) (s : Str), s.length ≤ n → s.all isD = true → numL s < 10 ^ s.length := by
    intro n
    induction n with
    | zero =>
      intro s h _
      have e : s = [] := List.length_eq_zero_iff.1 (by omega)
      subst e; decide
    | succ n ih =>
      intro s hn hd
      rcases List.eq_nil_or_concat s with rfl | ⟨t, c, rfl⟩
      · decide
      · rw [List.concat_eq_append] at *
        rw [List.all_append, Bool.and_eq_true] at hd
        have hc : 48 ≤ c.toNat ∧ c.toNat ≤ 57 := by simpa [isD] using hd.2
        have := ih t (by simp at hn; omega) hd.1
        rw [numL_snoc, List.length_append, List.length_singleton, Nat.pow_succ]
        omega
  exact gen s.length s (Nat.le_refl _) h
end Go.Proofs.YtcdcmohccbhchaaGreatDoor

/- The contracts of utf8.Check and utf8.Valid, and of 'short'. -/
import Derived.Test.YtalommgkigacpaaDoorDecode
import Derived.Test.YtalommgkigacpaaDoorScan
namespace Go.Proofs.YtalommgkigacpaaDoor
open Go.RowKit

set_option maxHeartbeats 400000 in
/-- utf8.Check. -/
theorem check_any (s : ByteArray) (w : World) (hs : s.size ≤ 140737488351232) :
    Calls Tryd.prog 16 #[.string s] w fun e w' => e = .returned (.tuple #[.int .i64 (atOf 0 (bl s)), .int .i64 (errOf (bl s))]) ∧ Gr w w' := by
  obtain ⟨A, hA⟩ : ∃ A, A = atOf 0 (bl s) := ⟨_, rfl⟩
  obtain ⟨E, hE⟩ : ∃ E, E = errOf (bl s) := ⟨_, rfl⟩
  rw [← hA, ← hE]
  have HA := Lib.hid hA
  have HE := Lib.hid hE
  clear hA hE
  go_enter Tryd.func16, Tryd.ntmps16
  go_wp2_with fail
  go_loopw [4, 5, 6, 7] (fun at_ _ _ _ wr => ∃ k : Nat, k ≤ s.size ∧ at_ = .int .i64 k ∧ Hid (A = atOf k ((bl s).drop k)) ∧ Hid (E = errOf ((bl s).drop k)) ∧ Gr w wr) (fun at_ _ _ _ _ => s.size - (intOf at_).toNat)
  case atStart => exact ⟨0, Nat.zero_le _, rfl, HA, HE, Gr.refl _⟩
  case round =>
    obtain ⟨k, hk, rfl, hA, hE, hg⟩ := hrel
    clear HA HE
    by_cases c : k < s.size
    · have hne : (bl s).drop k ≠ [] := by rw [bl_drop s k c]; simp
      by_cases d : decE ((bl s).drop k) = 0
      · have hA' : Hid (A = atOf (k + decN ((bl s).drop k)) ((bl s).drop (k + decN ((bl s).drop k)))) := by
          have := hA.out; rw [atOf_good _ _ d, List.drop_drop] at this; exact this
        have hE' : Hid (E = errOf ((bl s).drop (k + decN ((bl s).drop k)))) := by
          have := hE.out; rw [errOf_good _ d, List.drop_drop] at this; exact this
        have hn1 := decN_pos _ d
        have hn2 := decN_le ((bl s).drop k)
        rw [List.length_drop, bl_length] at hn2
        have D := Lib.hid d
        clear d hA hE hne
        go_wp2_with fail
        refine (decode_any _ _ (by rw [from_size]; omega)).mono ?_
        rintro e w' ⟨rfl, hg'⟩
        rw [bl_from, D.out]
        generalize decR ((bl s).drop k) = R
        generalize decN ((bl s).drop k) = n at *
        go_wp2_with fail
        go_roundw
        case rel => exact ⟨k + n, by omega, by go_num, hA', hE', hg.trans hg'⟩
        case measure => simp [intOf]; omega
      · have hA' : Hid (A = k) := by
          have := hA.out; rw [atOf_bad _ _ hne d] at this; exact this
        have hE' : Hid (E = decE ((bl s).drop k)) := by
          have := hE.out; rw [errOf_bad _ hne d] at this; exact this
        have D : (decE ((bl s).drop k) != 0) = true := by simpa using d
        clear d hA hE hne
        go_wp2_with fail
        refine (decode_any _ _ (by rw [from_size]; omega)).mono ?_
        rintro e w' ⟨rfl, hg'⟩
        rw [bl_from]
        generalize decR ((bl s).drop k) = R
        generalize decN ((bl s).drop k) = n at *
        generalize decE ((bl s).drop k) = x at *
        go_wp2_with fail
        go_ret2
        have h1 := hA'.out
        have h2 := hE'.out
        subst h1 h2
        exact ⟨rfl, hg.trans hg'⟩
    · have h1 := hA.out
      have h2 := hE.out
      have h0 : (bl s).drop k = [] := List.drop_of_length_le (by rw [bl_length]; omega)
      rw [h0] at h1 h2
      rw [atOf_nil] at h1
      rw [errOf_nil] at h2
      have H1 := Lib.hid h1
      have H2 := Lib.hid h2
      clear h1 h2 h0 hA hE
      go_wp2_with fail
      go_ret2
      have h1 := H1.out
      have h2 := H2.out
      subst h1 h2
      exact ⟨rfl, hg⟩

set_option maxHeartbeats 400000 in
/-- utf8.Valid. -/
theorem valid_any (s : ByteArray) (w : World) (hs : s.size ≤ 140737488351232) :
    Calls Tryd.prog 18 #[.string s] w fun e w' => e = .returned (.bool (errOf (bl s) == 0)) ∧ Gr w w' := by
  go_enter Tryd.func18, Tryd.ntmps18
  go_wp2_with fail
  refine (check_any _ _ hs).mono ?_
  rintro e w' ⟨rfl, hg'⟩
  go_wp2_with fail
  go_ret
  exact ⟨rfl, hg'⟩

/-- The beginning of a string, at most n bytes. -/
def shortB (s : ByteArray) (n : Nat) : ByteArray := s.extract 0 (min s.size n)
theorem shortB_size (s : ByteArray) (n : Nat) : (shortB s n).size = min s.size n := take_size s _ (Nat.min_le_left _ _)

set_option maxHeartbeats 400000 in
/-- law's short. -/
theorem short_any (s : ByteArray) (n : Nat) (w : World) (_hs : s.size ≤ 140737488351232) (hn : n ≤ 1000) :
    Calls Tryd.prog 14 #[.string s, .int .i64 n] w fun e w' => e = .returned (.string (shortB s n)) ∧ w = w' := by
  by_cases c : s.size ≤ n
  · have HS : Hid (shortB s n = s) := by
      apply bl_inj; unfold shortB; rw [bl_take, List.take_of_length_le]; rw [bl_length]; omega
    go_enter Tryd.func14, Tryd.ntmps14
    go_wp2_with fail
    go_ret
    exact ⟨by rw [HS.out]; rfl, rfl⟩
  · have HS : Hid (shortB s n = s.extract 0 n) := by
      show _ = _; unfold shortB; rw [Nat.min_eq_right (by omega)]
    go_enter Tryd.func14, Tryd.ntmps14
    go_wp2_with fail
    go_ret
    exact ⟨by rw [HS.out]; rfl, rfl⟩
end Go.Proofs.YtalommgkigacpaaDoor

/- The contract of utf8.value: the code point of one to four bytes; the world is as it was. -/
import Derived.Test.YtalommgkigacpaaDoorMeasure
import Derived.Laws.BitsLemmas
namespace Go.Proofs.YtalommgkigacpaaDoor
open Go.RowKit

theorem i32_mask5 (x : Int) (h0 : 0 ≤ x) (h1 : x < 2147483648) : bits .and .i32 x 31 = x % 32 := bits_mask .i32 31 (by decide) wraps_i32 5 (by decide) x h0 h1
theorem i32_mask4 (x : Int) (h0 : 0 ≤ x) (h1 : x < 2147483648) : bits .and .i32 x 15 = x % 16 := bits_mask .i32 31 (by decide) wraps_i32 4 (by decide) x h0 h1
theorem i32_mask3 (x : Int) (h0 : 0 ≤ x) (h1 : x < 2147483648) : bits .and .i32 x 7 = x % 8 := bits_mask .i32 31 (by decide) wraps_i32 3 (by decide) x h0 h1
theorem i32_mask6 (x : Int) (h0 : 0 ≤ x) (h1 : x < 2147483648) : bits .and .i32 x 63 = x % 64 := bits_mask .i32 31 (by decide) wraps_i32 6 (by decide) x h0 h1

theorem valFold_snoc (r : Int) (s : ByteArray) (k : Nat) (h1 : 1 ≤ k) (h : k < s.size) : valFold r (((bl s).drop 1).take k) = 64 * valFold r (((bl s).drop 1).take (k - 1)) + (s[k].toNat : Int) % 64 := by
  obtain ⟨j, rfl⟩ : ∃ j, k = j + 1 := ⟨k - 1, by omega⟩
  have hl : j < ((bl s).drop 1).length := by rw [List.length_drop, bl_length]; omega
  rw [List.take_succ_eq_append_getElem hl]
  unfold valFold
  rw [List.foldl_append]
  simp only [List.foldl_cons, List.foldl_nil, Nat.add_sub_cancel]
  have e : ((bl s).drop 1)[j] = s[j + 1] := by
    simp only [List.getElem_drop, Nat.add_comm 1 j]; rfl
  rw [e]; rfl
theorem bl_one (s : ByteArray) (h : 0 < s.size) : bl s = s[0] :: (bl s).drop 1 := by have := bl_drop s 0 h; simpa using this

set_option maxHeartbeats 400000 in
theorem value_1 (s : ByteArray) (w : World) (hs : s.size = 1) :
    Calls Tryd.prog 38 #[.string s] w fun e w' => e = .returned (.int .i32 (val (bl s))) ∧ w = w' := by
  have hp : 0 < s.size := by omega
  have b0 : (s[0].toNat : Int) ≤ 255 := by have := s[0].toNat_lt; omega
  have HV : Hid (val (bl s) = (s[0].toNat : Int)) := by
    have h1 : (bl s).drop 1 = [] := List.drop_of_length_le (by rw [bl_length]; omega)
    have e := bl_one s hp; rw [h1] at e; rw [e]; rfl
  go_enter Tryd.func38, Tryd.ntmps38
  go_wp2_with fail
  go_loop [3, 4] (fun r i => i = .int .i64 1 ∧ r = .int .i32 (s[0].toNat : Int)) (fun _ _ => 0)
  case atStart => exact ⟨rfl, rfl⟩
  case round =>
    obtain ⟨rfl, rfl⟩ := hrel
    go_wp2_with fail
    go_ret
    exact ⟨ret_int HV.out.symm, rfl⟩

set_option maxHeartbeats 400000 in
theorem value_2 (s : ByteArray) (w : World) (hs : s.size = 2) :
    Calls Tryd.prog 38 #[.string s] w fun e w' => e = .returned (.int .i32 (val (bl s))) ∧ w = w' := by
  have hp : 0 < s.size := by omega
  have b0 : (s[0].toNat : Int) ≤ 255 := by have := s[0].toNat_lt; omega
  have hm := i32_mask5 (s[0].toNat : Int) (by omega) (by omega)
  have HV : Hid (val (bl s) = valFold ((s[0].toNat : Int) % 32) (((bl s).drop 1).take 1)) := by
    have h1 : ((bl s).drop 1).take 1 = (bl s).drop 1 := List.take_of_length_le (by rw [List.length_drop, bl_length]; omega)
    have h2 : ((bl s).drop 1).length = 1 := by rw [List.length_drop, bl_length]; omega
    have e := bl_one s hp
    rw [h1, show val (bl s) = val (s[0] :: (bl s).drop 1) from congrArg val e]
    generalize (bl s).drop 1 = t at *
    rcases t with _ | ⟨b, t⟩
    · simp at h2
    · have h3 : t.length = 0 := by simpa using h2
      show valFold (bz s[0] % _) _ = _
      rw [h3]; rfl
  go_enter Tryd.func38, Tryd.ntmps38
  go_wp2_with fail
  go_loop [3, 4] (fun r i => ∃ k : Nat, 1 ≤ k ∧ k ≤ 2 ∧ i = .int .i64 k ∧ ∃ v : Int, Hid (v = valFold ((s[0].toNat : Int) % 32) (((bl s).drop 1).take (k - 1))) ∧ 0 ≤ v ∧ (k ≤ 1 → v < 32) ∧ (k ≤ 2 → v < 2048) ∧ (k ≤ 3 → v < 131072) ∧ v < 8388608 ∧ r = .int .i32 v) (fun _ i => 2 - (intOf i).toNat)
  case atStart => exact ⟨1, by omega, by omega, rfl, (s[0].toNat : Int) % 32, rfl, by omega, by omega, by omega, by omega, by omega, rfl⟩
  case round =>
    obtain ⟨k, hk1, hk2, rfl, v, hv, h0, h1, h2, h3, h4, rfl⟩ := hrel
    by_cases c : k < 2
    · have c' : k < s.size := by omega
      have b1 : (s[k].toNat : Int) ≤ 255 := by have := s[k].toNat_lt; omega
      have HS : Hid (v * 64 + (s[k].toNat : Int) % 64 = valFold ((s[0].toNat : Int) % 32) (((bl s).drop 1).take k)) := by
        show _ = _
        rw [valFold_snoc _ s k hk1 c', ← hv.out]; omega
      clear hv HV
      have b2 : v < 131072 := h3 (by omega)
      go_wp2_with fail
      exact ⟨⟨k + 1, by omega, by omega, by go_num, _, HS, by omega, by omega, by omega, by omega, by omega, rfl⟩, by simp [intOf]; omega⟩
    · go_wp2_with fail
      go_ret
      refine ⟨ret_int ?_, rfl⟩
      obtain rfl : k = 2 := by omega
      rw [hv.out, HV.out]

set_option maxHeartbeats 400000 in
theorem value_3 (s : ByteArray) (w : World) (hs : s.size = 3) :
    Calls Tryd.prog 38 #[.string s] w fun e w' => e = .returned (.int .i32 (val (bl s))) ∧ w = w' := by
  have hp : 0 < s.size := by omega
  have b0 : (s[0].toNat : Int) ≤ 255 := by have := s[0].toNat_lt; omega
  have hm := i32_mask4 (s[0].toNat : Int) (by omega) (by omega)
  have HV : Hid (val (bl s) = valFold ((s[0].toNat : Int) % 16) (((bl s).drop 1).take 2)) := by
    have h1 : ((bl s).drop 1).take 2 = (bl s).drop 1 := List.take_of_length_le (by rw [List.length_drop, bl_length]; omega)
    have h2 : ((bl s).drop 1).length = 2 := by rw [List.length_drop, bl_length]; omega
    have e := bl_one s hp
    rw [h1, show val (bl s) = val (s[0] :: (bl s).drop 1) from congrArg val e]
    generalize (bl s).drop 1 = t at *
    rcases t with _ | ⟨b, t⟩
    · simp at h2
    · have h3 : t.length = 1 := by simpa using h2
      show valFold (bz s[0] % _) _ = _
      rw [h3]; rfl
  go_enter Tryd.func38, Tryd.ntmps38
  go_wp2_with fail
  go_loop [3, 4] (fun r i => ∃ k : Nat, 1 ≤ k ∧ k ≤ 3 ∧ i = .int .i64 k ∧ ∃ v : Int, Hid (v = valFold ((s[0].toNat : Int) % 16) (((bl s).drop 1).take (k - 1))) ∧ 0 ≤ v ∧ (k ≤ 1 → v < 32) ∧ (k ≤ 2 → v < 2048) ∧ (k ≤ 3 → v < 131072) ∧ v < 8388608 ∧ r = .int .i32 v) (fun _ i => 3 - (intOf i).toNat)
  case atStart => exact ⟨1, by omega, by omega, rfl, (s[0].toNat : Int) % 16, rfl, by omega, by omega, by omega, by omega, by omega, rfl⟩
  case round =>
    obtain ⟨k, hk1, hk2, rfl, v, hv, h0, h1, h2, h3, h4, rfl⟩ := hrel
    by_cases c : k < 3
    · have c' : k < s.size := by omega
      have b1 : (s[k].toNat : Int) ≤ 255 := by have := s[k].toNat_lt; omega
      have HS : Hid (v * 64 + (s[k].toNat : Int) % 64 = valFold ((s[0].toNat : Int) % 16) (((bl s).drop 1).take k)) := by
        show _ = _
        rw [valFold_snoc _ s k hk1 c', ← hv.out]; omega
      clear hv HV
      have b2 : v < 131072 := h3 (by omega)
      go_wp2_with fail
      exact ⟨⟨k + 1, by omega, by omega, by go_num, _, HS, by omega, by omega, by omega, by omega, by omega, rfl⟩, by simp [intOf]; omega⟩
    · go_wp2_with fail
      go_ret
      refine ⟨ret_int ?_, rfl⟩
      obtain rfl : k = 3 := by omega
      rw [hv.out, HV.out]

set_option maxHeartbeats 400000 in
theorem value_4 (s : ByteArray) (w : World) (hs : s.size = 4) :
    Calls Tryd.prog 38 #[.string s] w fun e w' => e = .returned (.int .i32 (val (bl s))) ∧ w = w' := by
  have hp : 0 < s.size := by omega
  have b0 : (s[0].toNat : Int) ≤ 255 := by have := s[0].toNat_lt; omega
  have hm := i32_mask3 (s[0].toNat : Int) (by omega) (by omega)
  have HV : Hid (val (bl s) = valFold ((s[0].toNat : Int) % 8) (((bl s).drop 1).take 3)) := by
    have h1 : ((bl s).drop 1).take 3 = (bl s).drop 1 := List.take_of_length_le (by rw [List.length_drop, bl_length]; omega)
    have h2 : ((bl s).drop 1).length = 3 := by rw [List.length_drop, bl_length]; omega
    have e := bl_one s hp
    rw [h1, show val (bl s) = val (s[0] :: (bl s).drop 1) from congrArg val e]
    generalize (bl s).drop 1 = t at *
    rcases t with _ | ⟨b, t⟩
    · simp at h2
    · have h3 : t.length = 2 := by simpa using h2
      show valFold (bz s[0] % _) _ = _
      rw [h3]; rfl
  go_enter Tryd.func38, Tryd.ntmps38
  go_wp2_with fail
  go_loop [3, 4] (fun r i => ∃ k : Nat, 1 ≤ k ∧ k ≤ 4 ∧ i = .int .i64 k ∧ ∃ v : Int, Hid (v = valFold ((s[0].toNat : Int) % 8) (((bl s).drop 1).take (k - 1))) ∧ 0 ≤ v ∧ (k ≤ 1 → v < 32) ∧ (k ≤ 2 → v < 2048) ∧ (k ≤ 3 → v < 131072) ∧ v < 8388608 ∧ r = .int .i32 v) (fun _ i => 4 - (intOf i).toNat)
  case atStart => exact ⟨1, by omega, by omega, rfl, (s[0].toNat : Int) % 8, rfl, by omega, by omega, by omega, by omega, by omega, rfl⟩
  case round =>
    obtain ⟨k, hk1, hk2, rfl, v, hv, h0, h1, h2, h3, h4, rfl⟩ := hrel
    by_cases c : k < 4
    · have c' : k < s.size := by omega
      have b1 : (s[k].toNat : Int) ≤ 255 := by have := s[k].toNat_lt; omega
      have HS : Hid (v * 64 + (s[k].toNat : Int) % 64 = valFold ((s[0].toNat : Int) % 8) (((bl s).drop 1).take k)) := by
        show _ = _
        rw [valFold_snoc _ s k hk1 c', ← hv.out]; omega
      clear hv HV
      have b2 : v < 131072 := h3 (by omega)
      go_wp2_with fail
      exact ⟨⟨k + 1, by omega, by omega, by go_num, _, HS, by omega, by omega, by omega, by omega, by omega, rfl⟩, by simp [intOf]; omega⟩
    · go_wp2_with fail
      go_ret
      refine ⟨ret_int ?_, rfl⟩
      obtain rfl : k = 4 := by omega
      rw [hv.out, HV.out]

/-- utf8.value, at a string of one to four bytes. -/
theorem value_any (s : ByteArray) (w : World) (h1 : 1 ≤ s.size) (h4 : s.size ≤ 4) :
    Calls Tryd.prog 38 #[.string s] w fun e w' => e = .returned (.int .i32 (val (bl s))) ∧ w = w' := by
  rcases (show s.size = 1 ∨ s.size = 2 ∨ s.size = 3 ∨ s.size = 4 by omega) with h | h | h | h
  · exact value_1 s w h
  · exact value_2 s w h
  · exact value_3 s w h
  · exact value_4 s w h
end Go.Proofs.YtalommgkigacpaaDoor

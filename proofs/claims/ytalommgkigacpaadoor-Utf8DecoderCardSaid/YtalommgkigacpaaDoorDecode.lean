/- The contracts of utf8.Decode, Check and Valid. -/
import Derived.Test.YtalommgkigacpaaDoorValue
namespace Go.Proofs.YtalommgkigacpaaDoor
open Go.RowKit

theorem take_size (s : ByteArray) (n : Nat) (h : n ≤ s.size) : (s.extract 0 n).size = n := by
  rw [← bl_length, bl_extract]; simp [bl_length]; omega
theorem bl_take (s : ByteArray) (n : Nat) : bl (s.extract 0 n) = (bl s).take n := by
  rw [bl_extract]; simp
theorem bl_from (s : ByteArray) (n : Nat) : bl (s.extract n s.size) = (bl s).drop n := by
  rw [bl_extract]; apply List.take_of_length_le; simp [bl_length]
theorem from_size (s : ByteArray) (n : Nat) : (s.extract n s.size).size = s.size - n := by
  rw [← bl_length, bl_from]; simp [bl_length]

set_option maxHeartbeats 400000 in
theorem decode_w (s : ByteArray) (w : World) (hs : s.size ≤ 140737488351232) (he : s.toList.isEmpty = false) (_he2 : ¬ s.toList = []) (n : Nat) (hn : Hid (measN (bl s) = n)) (hw : Hid (measB (bl s) = true)) (h1 : 1 ≤ n) (h2 : n ≤ 4) (h3 : n ≤ s.size) :
    Calls Tryd.prog 19 #[.string s] w fun e w' => e = .returned (.tuple #[.int .i32 (val ((bl s).take n)), .int .i64 n, .int .i64 0]) ∧ Gr w w' := by
  go_enter Tryd.func19, Tryd.ntmps19
  go_wp2_with fail
  refine (measure_any s _ hs).mono ?_
  rintro e w' ⟨rfl, hg⟩
  rw [hn.out, hw.out]
  have hz := take_size s n h3
  have HZ := Lib.hid hz
  clear hz
  go_wp2_with fail
  refine (value_any _ _ (by rw [HZ.out]; exact h1) (by rw [HZ.out]; exact h2)).mono ?_
  rintro e w' ⟨rfl, rfl⟩
  rw [bl_take]
  go_wp2_with fail
  go_ret3
  exact ⟨rfl, hg⟩
set_option maxHeartbeats 400000 in
theorem decode_n (s : ByteArray) (w : World) (hs : s.size ≤ 140737488351232) (he : s.toList.isEmpty = false) (_he2 : ¬ s.toList = []) (n : Nat) (hn : Hid (measN (bl s) = n)) (hw : Hid (measB (bl s) = false)) (E : Int)
    (hE : (n = 0 ∧ E = 6) ∨ (n ≠ 0 ∧ n = s.size ∧ E = 23) ∨ (n ≠ 0 ∧ n ≠ s.size ∧ E = 3)) :
    Calls Tryd.prog 19 #[.string s] w fun e w' => e = .returned (.tuple #[.int .i32 0, .int .i64 0, .int .i64 E]) ∧ Gr w w' := by
  rcases hE with ⟨h1, rfl⟩ | ⟨h1, h2, rfl⟩ | ⟨h1, h2, rfl⟩
  · have hz : ((n : Int) == 0) = true := by simpa using h1
    clear h1
    go_enter Tryd.func19, Tryd.ntmps19
    go_wp2_with fail
    refine (measure_any s _ hs).mono ?_
    rintro e w' ⟨rfl, hg⟩
    rw [hn.out, hw.out]
    go_wp2_with fail
    go_ret3
    exact ⟨rfl, hg⟩
  · have hz : ((n : Int) == 0) = false := by simpa using h1
    have hz2 : ((n : Int) == (s.size : Int)) = true := by rw [h2]; simp
    clear h1 h2
    go_enter Tryd.func19, Tryd.ntmps19
    go_wp2_with fail
    refine (measure_any s _ hs).mono ?_
    rintro e w' ⟨rfl, hg⟩
    rw [hn.out, hw.out]
    go_wp2_with fail
    go_ret3
    exact ⟨rfl, hg⟩
  · have hz : ((n : Int) == 0) = false := by simpa using h1
    have hz2 : ((n : Int) == (s.size : Int)) = false := by simp; omega
    clear h1 h2
    go_enter Tryd.func19, Tryd.ntmps19
    go_wp2_with fail
    refine (measure_any s _ hs).mono ?_
    rintro e w' ⟨rfl, hg⟩
    rw [hn.out, hw.out]
    go_wp2_with fail
    go_ret3
    exact ⟨rfl, hg⟩
set_option maxHeartbeats 400000 in
theorem decode_e (s : ByteArray) (w : World) (_he : s.toList.isEmpty = true) (he2 : s.toList = []) :
    Calls Tryd.prog 19 #[.string s] w fun e w' => e = .returned (.tuple #[.int .i32 0, .int .i64 0, .int .i64 1]) ∧ Gr w w' := by
  go_enter Tryd.func19, Tryd.ntmps19
  go_wp2_with fail
  go_ret3
  exact ⟨rfl, Gr.refl _⟩

theorem bl_empty (s : ByteArray) : bl s = [] ↔ s.size = 0 := by rw [← bl_length, List.length_eq_zero_iff]

/-- utf8.Decode. -/
theorem decode_any (s : ByteArray) (w : World) (hs : s.size ≤ 140737488351232) :
    Calls Tryd.prog 19 #[.string s] w fun e w' => e = .returned (.tuple #[.int .i32 (decR (bl s)), .int .i64 (decN (bl s)), .int .i64 (decE (bl s))]) ∧ Gr w w' := by
  by_cases h0 : bl s = []
  · have he2 : s.toList = [] := by rw [bl_toList, h0]
    rw [h0]
    exact decode_e s w (by rw [he2]; rfl) he2
  · have he2 : ¬ s.toList = [] := by rw [bl_toList]; exact h0
    have he : s.toList.isEmpty = false := by simpa using he2
    by_cases hb : measB (bl s) = true
    · have hR : decR (bl s) = val ((bl s).take (measN (bl s))) := by simp [decR, hb]
      have hN : decN (bl s) = measN (bl s) := by simp [decN, hb]
      have hE : decE (bl s) = 0 := by simp [decE, hb, h0]
      rw [hR, hN, hE]
      exact decode_w s w hs he he2 _ rfl hb (measN_pos _ hb) (measN_le4 _) (by have := measN_le (bl s); rw [bl_length] at this; exact this)
    · have hb' : measB (bl s) = false := by simpa using hb
      have hR : decR (bl s) = 0 := by simp [decR, hb']
      have hN : decN (bl s) = 0 := by simp [decN, hb']
      have hE : decE (bl s) = if measN (bl s) = 0 then 6 else if measN (bl s) = (bl s).length then 23 else 3 := by simp [decE, hb', h0]
      rw [hR, hN]
      refine decode_n s w hs he he2 _ rfl hb' _ ?_
      rw [hE, bl_length]
      by_cases c1 : measN (bl s) = 0
      · exact .inl ⟨c1, by rw [if_pos c1]⟩
      · by_cases c2 : measN (bl s) = s.size
        · exact .inr (.inl ⟨c1, c2, by rw [if_neg c1, if_pos c2]⟩)
        · exact .inr (.inr ⟨c1, c2, by rw [if_neg c1, if_neg c2]⟩)
end Go.Proofs.YtalommgkigacpaaDoor

/- The contract of utf8.measure: for every string, how far its first bytes go on and whether they are an encoding; nothing that was there turns. -/
import Derived.Test.YtalommgkigacpaaDoorLeaf
import Derived.Deep.QuietTactic
import Derived.BigQuiet
import Derived.WalkLawsBesides
namespace Go.Proofs.YtalommgkigacpaaDoor
open Go.RowKit
theorem ret_nb {k : IntKind} {a b : Int} {c d : Bool} (h : a = b) (g : c = d) : Ending.returned (.tuple #[.int k a, .bool c]) = .returned (.tuple #[.int k b, .bool d]) := by rw [h, g]
set_option maxHeartbeats 400000 in
theorem measure_t (s : ByteArray) (w : World) (hs : s.size ≤ 140737488351232) (hp : 0 < s.size) (hz : (lenZ (s[0].toNat : Int) == 0) = false) (he : s.toList.isEmpty = false) (hl0 : 1 ≤ lenZ (s[0].toNat : Int)) (_hl1 : lenZ (s[0].toNat : Int) ≤ 4)
   (N : Nat) (hN : Hid (goOn s[0].toNat (lenZ s[0].toNat) 1 ((bl s).drop 1) = N)) :
    Calls Tryd.prog 37 #[.string s] w fun e w' => e = .returned (.tuple #[.int .i64 N, .bool (decide ((N : Int) = lenZ s[0].toNat))]) ∧ Gr w w' := by
  have b0 : (s[0].toNat : Int) ≤ 255 := by have := s[0].toNat_lt; omega
  have he2 : ¬ s.toList = [] := by simpa using he
  go_enter Tryd.func37, Tryd.ntmps37
  go_wp2_with (go_at_call 45; refine (length_any _ _ (by omega) (by omega)).mono ?_; rintro e w' ⟨rfl, rfl⟩)
  go_loopw [2] (fun n wr => ∃ k : Nat, 1 ≤ k ∧ k ≤ s.size ∧ (k : Int) ≤ lenZ (s[0].toNat : Int) ∧ n = .int .i64 k ∧ Hid (goOn s[0].toNat (lenZ s[0].toNat) k ((bl s).drop k) = N) ∧ Gr w wr) (fun n _ => s.size - (intOf n).toNat)
  case atStart => exact ⟨1, by omega, by omega, hl0, rfl, hN, Gr.refl _⟩
  case round =>
    obtain ⟨k, hk1, hk2, hk3, rfl, hk4, hgr⟩ := hrel
    clear hN
    by_cases c1 : (k : Int) < lenZ (s[0].toNat : Int)
    · by_cases c2 : k < s.size
      · have b1 : (s[k].toNat : Int) ≤ 255 := by have := s[k].toNat_lt; omega
        cases hc : contB (s[0].toNat : Int) k (s[k].toNat : Int) with
        | true =>
          have HS : Hid (goOn s[0].toNat (lenZ s[0].toNat) (k + 1) ((bl s).drop (k + 1)) = N) := by
            have := hk4.out; rw [bl_drop s k c2, goOn_yes _ _ _ _ _ c1 hc] at this; exact this
          clear hk4
          go_wp2_with fail
          go_quiet ((go_at_call 46; exact still_call (continues_any _ _ _ _ (by omega) (by omega) (by omega) (by omega))))
          go_wp2
          go_roundw
          case rel => exact ⟨k + 1, by omega, by omega, by omega, by go_num, HS, hgr.drewN _⟩
          case measure => simp [intOf]; omega
        | false =>
          have HS : Hid (k = N) := by
            have := hk4.out; rw [bl_drop s k c2, goOn_no _ _ _ _ _ hc] at this; exact this
          clear hk4
          go_wp2_with fail
          go_quiet ((go_at_call 46; exact still_call (continues_any _ _ _ _ (by omega) (by omega) (by omega) (by omega))))
          go_wp2
          go_ret2
          have := HS.out
          subst this
          exact ⟨ret_nb rfl (by rw [Bool.eq_iff_iff]; simp), hgr.drewN _⟩
      · have HS : Hid (k = N) := by
          have := hk4.out; rw [List.drop_of_length_le (by rw [bl_length]; omega), goOn_nil] at this; exact this
        clear hk4
        have d2 : decide (k < s.size) = false := by simpa using c2
        go_wp2_with fail
        go_quiet (fail)
        go_wp2
        go_ret2
        have := HS.out
        subst this
        exact ⟨ret_nb rfl (by rw [Bool.eq_iff_iff]; simp), hgr.drewN _⟩
    · have HS : Hid (k = N) := by
        have := hk4.out; rw [goOn_full _ _ _ _ c1] at this; exact this
      clear hk4
      have d2 : decide ((k : Int) < lenZ (s[0].toNat : Int)) = false := by simpa using c1
      go_wp2_with fail
      go_quiet (fail)
      go_wp2
      go_ret2
      have := HS.out
      subst this
      exact ⟨ret_nb rfl (by rw [Bool.eq_iff_iff]; simp), hgr.drewN _⟩
set_option maxHeartbeats 400000 in
theorem measure_z (s : ByteArray) (w : World) (_hs : s.size ≤ 140737488351232) (hp : 0 < s.size) (hz : (lenZ (s[0].toNat : Int) == 0) = true) (he : s.toList.isEmpty = false) :
    Calls Tryd.prog 37 #[.string s] w fun e w' => e = .returned (.tuple #[.int .i64 0, .bool false]) ∧ Gr w w' := by
  have b0 : (s[0].toNat : Int) ≤ 255 := by have := s[0].toNat_lt; omega
  have he2 : ¬ s.toList = [] := by simpa using he
  go_enter Tryd.func37, Tryd.ntmps37
  go_wp2_with (go_at_call 45; refine (length_any _ _ (by omega) (by omega)).mono ?_; rintro e w' ⟨rfl, rfl⟩)
  go_ret2
  exact ⟨rfl, Gr.refl _⟩
set_option maxHeartbeats 400000 in
theorem measure_e (s : ByteArray) (w : World) (_he : s.toList.isEmpty = true) (he2 : s.toList = []) :
    Calls Tryd.prog 37 #[.string s] w fun e w' => e = .returned (.tuple #[.int .i64 0, .bool false]) ∧ Gr w w' := by
  go_enter Tryd.func37, Tryd.ntmps37
  go_wp2_with fail
  go_ret2
  exact ⟨rfl, Gr.refl _⟩

/-- utf8.measure. -/
theorem measure_any (s : ByteArray) (w : World) (hs : s.size ≤ 140737488351232) :
    Calls Tryd.prog 37 #[.string s] w fun e w' => e = .returned (.tuple #[.int .i64 (measN (bl s)), .bool (measB (bl s))]) ∧ Gr w w' := by
  by_cases hp : 0 < s.size
  · have hb : bl s = s[0] :: (bl s).drop 1 := by have := bl_drop s 0 hp; simpa using this
    have he : s.toList.isEmpty = false := by rw [bl_toList, hb]; rfl
    have hv := len_vals (bz s[0])
    by_cases hz : lenZ (bz s[0]) = 0
    · have e1 : measN (bl s) = 0 := by rw [hb]; simp [measN, hz]
      have e2 : measB (bl s) = false := by rw [hb]; simp [measB, hz]
      rw [e1, e2]
      exact measure_z s w hs hp (by simpa [bz] using hz) he
    · have e1 : measN (bl s) = goOn (bz s[0]) (lenZ (bz s[0])) 1 ((bl s).drop 1) := (congrArg measN hb).trans (by simp [measN, hz])
      have e2 : measB (bl s) = decide ((goOn (bz s[0]) (lenZ (bz s[0])) 1 ((bl s).drop 1) : Int) = lenZ (bz s[0])) := (congrArg measB hb).trans (by simp [measB, hz])
      rw [e1, e2]
      unfold bz at *
      exact measure_t s w hs hp (by simpa using hz) he (by omega) (by omega) _ rfl
  · have hb : bl s = [] := List.length_eq_zero_iff.1 (by rw [bl_length]; omega)
    have he2 : s.toList = [] := by rw [bl_toList, hb]
    rw [hb]
    exact measure_e s w (by rw [he2]; rfl) he2
end Go.Proofs.YtalommgkigacpaaDoor

/- The contracts of the reference's lead, least, most and Begins. -/
import Derived.Test.YtalommgkigacpaaDoorCheck
namespace Go.Proofs.YtalommgkigacpaaDoor
open Go.RowKit

theorem vv (a b c d : Int) (h1 : a = c) (h2 : b = d) : #[Value.int IntKind.i64 a, Value.int .i64 b] = #[Value.int .i64 c, Value.int .i64 d] := by rw [h1, h2]
set_option maxHeartbeats 400000 in
theorem lead_any (c : Int) (w : World) (h0 : 0 ≤ c) (h1 : c ≤ 255) :
    Calls Tryd.prog 47 #[.int .u8 c] w fun e w' => e = .returned (.tuple #[.int .i64 (leadN c), .int .i64 (leadV c)]) ∧ w = w' := by
  have e1 : Hid (leadN c = if c < 128 then 1 else if c < 192 then 0 else if c < 224 then 2 else if c < 240 then 3 else if c < 248 then 4 else 0) := rfl
  have e2 : Hid (leadV c = if c < 128 then c else if c < 192 then 0 else if c < 224 then c - 192 else if c < 240 then c - 224 else if c < 248 then c - 240 else 0) := rfl
  go_enter Tryd.func47, Tryd.ntmps47
  go_wp2
  all_goals
    go_ret2
    refine ⟨congrArg Ending.returned (congrArg Value.tuple (vv _ _ _ _ ?_ ?_)), rfl⟩
    · have f1 := e1.out; omega
    · have f2 := e2.out; omega

set_option maxHeartbeats 400000 in
theorem least_t (n : Int) (w : World) (h0 : 0 ≤ n) (h1 : n ≤ 4) :
    Calls Tryd.prog 48 #[.int .i64 n] w fun e w' => e = .returned (.int .i64 (leastZ n)) ∧ Gr w w' := by
  rcases (show n = 0 ∨ n = 1 ∨ n = 2 ∨ n = 3 ∨ n = 4 by omega) with rfl | rfl | rfl | rfl | rfl
  all_goals
    go_enter Tryd.func48, Tryd.ntmps48
    go_wp2_with fail
    go_ret
    exact ⟨rfl, (Gr.refl _).alloc _⟩
set_option maxHeartbeats 400000 in
theorem most_t (n : Int) (w : World) (h0 : 0 ≤ n) (h1 : n ≤ 4) :
    Calls Tryd.prog 49 #[.int .i64 n] w fun e w' => e = .returned (.int .i64 (mostZ n)) ∧ Gr w w' := by
  rcases (show n = 0 ∨ n = 1 ∨ n = 2 ∨ n = 3 ∨ n = 4 by omega) with rfl | rfl | rfl | rfl | rfl
  all_goals
    go_enter Tryd.func49, Tryd.ntmps49
    go_wp2_with fail
    go_ret
    exact ⟨rfl, (Gr.refl _).alloc _⟩

theorem refV_snoc (r : Int) (s : ByteArray) (k : Nat) (h1 : 1 ≤ k) (h : k < s.size) : refV r (((bl s).drop 1).take k) = 64 * refV r (((bl s).drop 1).take (k - 1)) + (s[k].toNat : Int) - 128 := by
  obtain ⟨j, rfl⟩ : ∃ j, k = j + 1 := ⟨k - 1, by omega⟩
  have hl : j < ((bl s).drop 1).length := by rw [List.length_drop, bl_length]; omega
  rw [List.take_succ_eq_append_getElem hl]
  unfold refV
  rw [List.foldl_append]
  simp only [List.foldl_cons, List.foldl_nil, Nat.add_sub_cancel]
  have e : ((bl s).drop 1)[j] = s[j + 1] := by
    simp only [List.getElem_drop, Nat.add_comm 1 j]; rfl
  rw [e]; rfl
theorem conts_snoc (s : ByteArray) (k : Nat) (h1 : 1 ≤ k) (h : k < s.size) : conts (((bl s).drop 1).take k) = (conts (((bl s).drop 1).take (k - 1)) && (decide (128 ≤ (s[k].toNat : Int)) && decide ((s[k].toNat : Int) ≤ 191))) := by
  obtain ⟨j, rfl⟩ : ∃ j, k = j + 1 := ⟨k - 1, by omega⟩
  have hl : j < ((bl s).drop 1).length := by rw [List.length_drop, bl_length]; omega
  rw [List.take_succ_eq_append_getElem hl]
  unfold conts
  have e : ((bl s).drop 1)[j] = s[j + 1] := by
    simp only [List.getElem_drop, Nat.add_comm 1 j]; rfl
  rw [List.all_append, e]
  simp only [List.all_cons, List.all_nil, Bool.and_true, Nat.add_sub_cancel]
  rfl
theorem leadV_bd (x : Int) (h0 : 0 ≤ x) (h1 : x ≤ 255) : 0 ≤ leadV x ∧ leadV x < 128 := by
  rcases cls x h0 h1 with h | h | h | h | h | h | h | h <;> omega
def orZero (b : Bool) (n : Int) : Int := if b = true then n else 0
theorem conts_take (l : List UInt8) (k : Nat) (h : conts l = true) : conts (l.take k) = true := by
  unfold conts at *
  rw [List.all_eq_true] at *
  exact fun x hx => h x (List.mem_of_mem_take hx)

set_option maxRecDepth 100000 in
set_option maxHeartbeats 1000000 in
theorem begins_w (s : ByteArray) (w : World) (hp : 0 < s.size) (n : Int) (hn : Hid (leadN (s[0].toNat : Int) = n)) (h1 : 1 ≤ n) (h4 : n ≤ 4) (hs : (s.size : Int) ≤ n) (V : Int) (hV : Hid (refV (leadV (s[0].toNat : Int)) ((bl s).drop 1) = V)) (hC : Hid (conts ((bl s).drop 1) = true)) (R : Bool) (hR : Hid (rangeB n (lowTo (n.toNat - s.size) V) (highTo (n.toNat - s.size) V) = R)) :
    Calls Tryd.prog 39 #[.string s] w fun e w' => e = .returned (.tuple #[.bool R, .int .i64 (orZero R n), .int .i64 (orZero R V)]) ∧ Gr w w' := by
  have b0 : (s[0].toNat : Int) ≤ 255 := by have := s[0].toNat_lt; omega
  have z1 : (n == 0) = false := by simp; omega
  have z2 : decide (n < (s.size : Int)) = false := by simp; omega
  have L0 : (0 : Int) ≤ leadV (s[0].toNat : Int) ∧ leadV (s[0].toNat : Int) < (128 : Int) := leadV_bd _ (by omega) b0
  have L1 := L0.1
  have L2 := L0.2
  clear L0
  go_enter Tryd.func39, Tryd.ntmps39
  go_wp2_with fail
  refine (lead_any _ _ (by omega) b0).mono ?_
  rintro e w' ⟨rfl, rfl⟩
  rw [hn.out]
  go_wp2_with fail
  go_loop [6, 7] (fun v i => ∃ k : Nat, 1 ≤ k ∧ k ≤ s.size ∧ i = .int .i64 k ∧ ∃ x : Int, Hid (x = refV (leadV (s[0].toNat : Int)) (((bl s).drop 1).take (k - 1))) ∧ 0 ≤ x ∧ (k ≤ 1 → x < 128) ∧ (k ≤ 2 → x < 8192) ∧ (k ≤ 3 → x < 524288) ∧ x < 33554432 ∧ v = .int .i64 x) (fun _ i => s.size - (intOf i).toNat)
  case atStart => exact ⟨1, by omega, by omega, rfl, leadV (s[0].toNat : Int), rfl, L1, by omega, by omega, by omega, by omega, rfl⟩
  case round =>
    obtain ⟨k, hk1, hk2, rfl, x, hx, x0, x1, x2, x3, x4, rfl⟩ := hrel
    by_cases c : k < s.size
    · have b1 : (s[k].toNat : Int) ≤ 255 := by have := s[k].toNat_lt; omega
      have hc : conts (((bl s).drop 1).take k) = true := conts_take _ k hC.out
      rw [conts_snoc s k hk1 c] at hc
      simp only [Bool.and_eq_true, decide_eq_true_eq] at hc
      obtain ⟨_, c1, c2⟩ := hc
      have HS : Hid ((64 : Int) * x + (s[k].toNat : Int) - (128 : Int) = refV (leadV (s[0].toNat : Int)) (((bl s).drop 1).take k)) := by
        show _ = _
        rw [refV_snoc _ s k hk1 c, ← hx.out]
      clear hx
      have x3' := x3 (by omega)
      go_wp2_with fail
      exact ⟨⟨k + 1, by omega, by omega, by go_num, _, HS, by omega, by omega, by omega, by omega, by omega, rfl⟩, by simp [intOf]; omega⟩
    · have X1 := x1; have X2 := x2; have X3 := x3
      have hV' : Hid (x = V) := by
        have := hx.out; rw [List.take_of_length_le (by rw [List.length_drop, bl_length]; omega), hV.out] at this; exact this
      have HR : Hid (rangeB n (lowTo (n.toNat - s.size) x) (highTo (n.toNat - s.size) x) = R) := by rw [hV'.out]; exact hR
      clear hx hR x1 x2 x3
      have x1 : s.size ≤ 1 → x < 128 := fun h => X1 (by omega)
      have x2 : s.size ≤ 2 → x < 8192 := fun h => X2 (by omega)
      have x3 : s.size ≤ 3 → x < 524288 := fun h => X3 (by omega)
      clear X1 X2 X3
      go_wp2_with fail
      go_loop [8, 9, 10] (fun l h i => ∃ k : Nat, s.size ≤ k ∧ (k : Int) ≤ n ∧ i = .int .i64 k ∧ ∃ a b : Int, Hid (rangeB n (lowTo (n.toNat - k) a) (highTo (n.toNat - k) b) = R) ∧ 0 ≤ a ∧ a ≤ b ∧ (k ≤ 1 → b < 128) ∧ (k ≤ 2 → b < 8192) ∧ (k ≤ 3 → b < 524288) ∧ b < 33554432 ∧ l = .int .i64 a ∧ h = .int .i64 b) (fun _ _ i => n.toNat - (intOf i).toNat)
      case atStart => exact ⟨s.size, by omega, by omega, rfl, x, x, HR, x0, by omega, by omega, by omega, by omega, by omega, rfl, rfl⟩
      case round =>
        obtain ⟨j, hj1, hj2, rfl, a, b, hR, a0, ab, y1, y2, y3, y4, rfl, rfl⟩ := hrel
        by_cases d : (j : Int) < n
        · have y3' := y3 (by omega)
          have HS : Hid (rangeB n (lowTo (n.toNat - (j + 1)) (64 * a)) (highTo (n.toNat - (j + 1)) (64 * b + 63)) = R) := by
            have := hR.out
            rw [show n.toNat - j = (n.toNat - (j + 1)) + 1 by omega] at this
            exact this
          clear hR
          go_wp2_with fail
          exact ⟨⟨j + 1, by omega, by omega, by go_num, 64 * a, 64 * b + 63, HS, by omega, by omega, by omega, by omega, by omega, by omega, rfl, rfl⟩, by simp [intOf]; omega⟩
        · have HS : Hid (rangeB n a b = R) := by
            have := hR.out
            rw [show n.toNat - j = 0 by omega] at this
            exact this
          clear hR y1 y2 y3 x1 x2 x3
          go_wp2_with fail
          refine (least_t _ _ (by omega) (by omega)).mono ?_
          rintro e w1 ⟨rfl, hg1⟩
          go_wp2_with fail
          all_goals
            refine (most_t _ _ (by omega) (by omega)).mono ?_
            rintro e w2 ⟨rfl, hg2⟩
            go_wp2_with fail
          all_goals
            go_ret3
            refine ⟨?_, hg1.trans hg2⟩
            have hR := HS.out
            have hVV := hV'.out
            subst hR hVV
            clear HS hV' hn hV hC HR
            first
              | (have hr : rangeB n a b = true := (rangeB_iff _ _ _).2 (by omega)
                 rw [hr]; rfl)
              | (have hr : rangeB n a b = false := by
                   rw [Bool.eq_false_iff, ne_eq, rangeB_iff]; omega
                 rw [hr]; rfl)
end Go.Proofs.YtalommgkigacpaaDoor

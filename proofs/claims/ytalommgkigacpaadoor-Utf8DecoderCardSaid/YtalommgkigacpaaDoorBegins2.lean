/- The contracts of the reference's Begins (every string) and First. -/
import Derived.Test.YtalommgkigacpaaDoorBegins
namespace Go.Proofs.YtalommgkigacpaaDoor
open Go.RowKit

set_option maxRecDepth 100000 in
set_option maxHeartbeats 1000000 in
theorem begins_bad (s : ByteArray) (w : World) (hp : 0 < s.size) (n : Int) (hn : Hid (leadN (s[0].toNat : Int) = n)) (h1 : 1 ≤ n) (h4 : n ≤ 4) (hs : (s.size : Int) ≤ n) (hC : Hid (conts ((bl s).drop 1) = false)) :
    Calls Tryd.prog 39 #[.string s] w fun e w' => e = .returned (.tuple #[.bool false, .int .i64 0, .int .i64 0]) ∧ Gr w w' := by
  have b0 : (s[0].toNat : Int) ≤ 255 := by have := s[0].toNat_lt; omega
  have z1 : (n == 0) = false := by simp; omega
  have z2 : decide (n < (s.size : Int)) = false := by simp; omega
  have L0 : (0 : Int) ≤ leadV (s[0].toNat : Int) ∧ leadV (s[0].toNat : Int) < (128 : Int) := leadV_bd _ (by omega) b0
  have L1 := L0.1
  have L2 := L0.2
  clear L0
  go_enter Tryd.func39, Tryd.ntmps39
  go_wp2_with fail
  refine (lead_any _ _ (by omega) b0).mono ?_
  rintro e w' ⟨rfl, rfl⟩
  rw [hn.out]
  go_wp2_with fail
  go_loop [6, 7] (fun v i => ∃ k : Nat, 1 ≤ k ∧ k ≤ s.size ∧ i = .int .i64 k ∧ ∃ x : Int, Hid (conts (((bl s).drop 1).take (k - 1)) = true) ∧ 0 ≤ x ∧ (k ≤ 1 → x < 128) ∧ (k ≤ 2 → x < 8192) ∧ (k ≤ 3 → x < 524288) ∧ x < 33554432 ∧ v = .int .i64 x) (fun _ i => s.size - (intOf i).toNat)
  case atStart => exact ⟨1, by omega, by omega, rfl, leadV (s[0].toNat : Int), rfl, L1, by omega, by omega, by omega, by omega, rfl⟩
  case round =>
    obtain ⟨k, hk1, hk2, rfl, x, hx, x0, x1, x2, x3, x4, rfl⟩ := hrel
    by_cases c : k < s.size
    · have b1 : (s[k].toNat : Int) ≤ 255 := by have := s[k].toNat_lt; omega
      have hc := conts_snoc s k hk1 c
      rw [hx.out, Bool.true_and] at hc
      by_cases c1 : 128 ≤ (s[k].toNat : Int) ∧ (s[k].toNat : Int) ≤ 191
      · obtain ⟨c1, c2⟩ := c1
        have HS : Hid (conts (((bl s).drop 1).take k) = true) := by
          show _ = _
          rw [hc]; simp; omega
        clear hx hc
        have x3' := x3 (by omega)
        go_wp2_with fail
        exact ⟨⟨k + 1, by omega, by omega, by go_num, _, HS, by omega, by omega, by omega, by omega, by omega, rfl⟩, by simp [intOf]; omega⟩
      · clear hx hc
        by_cases c2 : 128 ≤ (s[k].toNat : Int)
        · have c3 : (191 : Int) < (s[k].toNat : Int) := by omega
          clear c1
          go_wp2_with fail
          go_ret3
          exact ⟨rfl, Gr.refl _⟩
        · clear c1
          go_wp2_with fail
          go_ret3
          exact ⟨rfl, Gr.refl _⟩
    · exfalso
      have := hx.out; rw [List.take_of_length_le (by rw [List.length_drop, bl_length]; omega), hC.out] at this; cases this

set_option maxRecDepth 100000 in
set_option maxHeartbeats 1000000 in
theorem begins_none (s : ByteArray) (w : World) (hp : 0 < s.size) (_hs : s.size ≤ 140737488351232) (n : Int) (hn : Hid (leadN (s[0].toNat : Int) = n)) (h0 : 0 ≤ n) (h4 : n ≤ 4) (h : n = 0 ∨ n < (s.size : Int)) :
    Calls Tryd.prog 39 #[.string s] w fun e w' => e = .returned (.tuple #[.bool false, .int .i64 0, .int .i64 0]) ∧ Gr w w' := by
  have b0 : (s[0].toNat : Int) ≤ 255 := by have := s[0].toNat_lt; omega
  by_cases c : n = 0
  · have z1 : (n == 0) = true := by simp; omega
    clear c h
    go_enter Tryd.func39, Tryd.ntmps39
    go_wp2_with fail
    refine (lead_any _ _ (by omega) b0).mono ?_
    rintro e w' ⟨rfl, rfl⟩
    rw [hn.out]
    go_wp2_with fail
    go_ret3
    exact ⟨rfl, Gr.refl _⟩
  · have z1 : (n == 0) = false := by simp; omega
    have z2 : n < (s.size : Int) := by omega
    clear c h
    go_enter Tryd.func39, Tryd.ntmps39
    go_wp2_with fail
    refine (lead_any _ _ (by omega) b0).mono ?_
    rintro e w' ⟨rfl, rfl⟩
    rw [hn.out]
    go_wp2_with fail
    go_ret3
    exact ⟨rfl, Gr.refl _⟩

theorem lead_vals (x : Int) : leadN x = 0 ∨ leadN x = 1 ∨ leadN x = 2 ∨ leadN x = 3 ∨ leadN x = 4 := by
  unfold leadN; repeat' split
  all_goals omega

/-- The reference's Begins, at every string that is not empty. -/
theorem begins_any (s : ByteArray) (w : World) (hp : 0 < s.size) (hs : s.size ≤ 140737488351232) :
    Calls Tryd.prog 39 #[.string s] w fun e w' => e = .returned (.tuple #[.bool (begB (bl s)), .int .i64 (begN (bl s)), .int .i64 (begV (bl s))]) ∧ Gr w w' := by
  have hb := bl_one s hp
  have hl : ((s[0] :: (bl s).drop 1).length : Int) = (s.size : Int) := by rw [← hb, bl_length]
  have hv := lead_vals (bz s[0])
  have eB : begB (bl s) = begB (s[0] :: (bl s).drop 1) := congrArg begB hb
  have eN : begN (bl s) = begN (s[0] :: (bl s).drop 1) := congrArg begN hb
  have eV : begV (bl s) = begV (s[0] :: (bl s).drop 1) := congrArg begV hb
  by_cases c : leadN (bz s[0]) = 0 ∨ leadN (bz s[0]) < (s.size : Int)
  · have e0 : begB (s[0] :: (bl s).drop 1) = false := by simp only [begB]; rw [hl, if_pos c]
    have e1 : begN (s[0] :: (bl s).drop 1) = 0 := by unfold begN; rw [e0]; rfl
    have e2 : begV (s[0] :: (bl s).drop 1) = 0 := by unfold begV; rw [e0]; rfl
    rw [eB, eN, eV, e0, e1, e2]
    exact begins_none s w hp hs _ rfl (by unfold bz at *; omega) (by unfold bz at *; omega) c
  · by_cases d : conts ((bl s).drop 1) = true
    · have e0 : begB (s[0] :: (bl s).drop 1) = rangeB (leadN (bz s[0])) (lowTo ((leadN (bz s[0])).toNat - s.size) (refV (leadV (bz s[0])) ((bl s).drop 1))) (highTo ((leadN (bz s[0])).toNat - s.size) (refV (leadV (bz s[0])) ((bl s).drop 1))) := by
        simp only [begB]; rw [hl, if_neg c, if_pos d, show (leadN (bz s[0]) - (s.size : Int)).toNat = (leadN (bz s[0])).toNat - s.size by omega]
      have e1 : begN (s[0] :: (bl s).drop 1) = orZero (begB (s[0] :: (bl s).drop 1)) (leadN (bz s[0])) := rfl
      have e2 : begV (s[0] :: (bl s).drop 1) = orZero (begB (s[0] :: (bl s).drop 1)) (refV (leadV (bz s[0])) ((bl s).drop 1)) := rfl
      rw [eB, eN, eV, e1, e2, e0]
      exact begins_w s w hp _ rfl (by unfold bz at *; omega) (by unfold bz at *; omega) (by unfold bz at *; omega) _ rfl d _ rfl
    · have e0 : begB (s[0] :: (bl s).drop 1) = false := by simp only [begB]; rw [hl, if_neg c, if_neg d]
      have e1 : begN (s[0] :: (bl s).drop 1) = 0 := by unfold begN; rw [e0]; rfl
      have e2 : begV (s[0] :: (bl s).drop 1) = 0 := by unfold begV; rw [e0]; rfl
      rw [eB, eN, eV, e0, e1, e2]
      exact begins_bad s w hp _ rfl (by unfold bz at *; omega) (by unfold bz at *; omega) (by unfold bz at *; omega) (Bool.eq_false_iff.2 d)

set_option maxHeartbeats 1000000 in
/-- The reference's First, at every string that is not empty. -/
theorem first_any (s : ByteArray) (w : World) (hp : 0 < s.size) (hs : s.size ≤ 140737488351232) :
    Calls Tryd.prog 20 #[.string s] w fun e w' => e = .returned (.tuple #[.int .i64 (firR (bl s)), .int .i64 (firN (bl s)), .int .i64 (firE (bl s))]) ∧ Gr w w' := by
  have hz1 := take_size s 1 (by omega)
  have HZ1 := Lib.hid hz1
  have hb1 : bl (s.extract 0 1) = (bl s).take 1 := bl_take s 1
  have HB1 := Lib.hid hb1
  have hone : (bl s).take 1 = [s[0]] := by rw [bl_one s hp]; rfl
  have hnb : begN ((bl s).take 1) = lenZ (bz s[0]) := by rw [hone]; exact begN1 _
  have hv := len_vals (bz s[0])
  clear hz1 hb1
  by_cases c1 : begB ((bl s).take 1) = true
  · have hpos : lenZ (bz s[0]) ≠ 0 := by rw [hone, beg1] at c1; exact c1
    by_cases c2 : begN ((bl s).take 1) ≤ ((bl s).length : Int)
    · have hz2 := take_size s (begN ((bl s).take 1)).toNat (by rw [bl_length] at c2; omega)
      have hb2 := bl_take s (begN ((bl s).take 1)).toNat
      obtain ⟨m, hm⟩ : ∃ m : Nat, begN ((bl s).take 1) = (m : Int) := ⟨(begN ((bl s).take 1)).toNat, by omega⟩
      have hm1 : 1 ≤ m := by omega
      have hm2 : m ≤ s.size := by rw [bl_length] at c2; omega
      by_cases c3 : begB ((bl s).take m) = true
      · have eR : firR (bl s) = begV ((bl s).take m) := by unfold firR; rw [if_pos c1, if_pos c2, hm, Int.toNat_natCast, if_pos c3]
        have eN : firN (bl s) = m := by unfold firN; rw [if_pos c1, if_pos c2, hm, Int.toNat_natCast, if_pos c3]
        have eE : firE (bl s) = 0 := by unfold firE; rw [if_pos c1, if_pos c2, hm, Int.toNat_natCast, if_pos c3]
        rw [eR, eN, eE]
        rw [hm, Int.toNat_natCast] at hz2 hb2
        have HM := Lib.hid hm; have C1 := Lib.hid c1; have C3 := Lib.hid c3; have HZ2 := Lib.hid hz2; have HB2 := Lib.hid hb2
        clear hz2 hb2 c1 c2 c3 hm hnb hone eR eN eE hv hpos
        go_enter Tryd.func20, Tryd.ntmps20
        go_wp2_with fail
        refine (begins_any _ _ (by rw [HZ1.out]; omega) (by rw [HZ1.out]; omega)).mono ?_
        rintro e w1 ⟨rfl, hg1⟩
        rw [HB1.out, C1.out, HM.out]
        generalize begV ((bl s).take 1) = v0
        go_wp2_with fail
        refine (begins_any _ _ (by rw [HZ2.out]; omega) (by rw [HZ2.out]; omega)).mono ?_
        rintro e w2 ⟨rfl, hg2⟩
        rw [HB2.out, C3.out]
        go_wp2_with fail
        go_ret3
        exact ⟨rfl, hg1.trans hg2⟩
      · have eR : firR (bl s) = 0 := by unfold firR; rw [if_pos c1, if_pos c2, hm, Int.toNat_natCast, if_neg c3]
        have eN : firN (bl s) = 0 := by unfold firN; rw [if_pos c1, if_pos c2, hm, Int.toNat_natCast, if_neg c3]
        have eE : firE (bl s) = 3 := by unfold firE; rw [if_pos c1, if_pos c2, hm, Int.toNat_natCast, if_neg c3]
        rw [eR, eN, eE]
        rw [hm, Int.toNat_natCast] at hz2 hb2
        have c3' : begB ((bl s).take m) = false := by simpa using c3
        have HM := Lib.hid hm; have C1 := Lib.hid c1; have C3 := Lib.hid c3'; have HZ2 := Lib.hid hz2; have HB2 := Lib.hid hb2
        clear hz2 hb2 c1 c2 c3 c3' hm hnb hone eR eN eE hv hpos
        go_enter Tryd.func20, Tryd.ntmps20
        go_wp2_with fail
        refine (begins_any _ _ (by rw [HZ1.out]; omega) (by rw [HZ1.out]; omega)).mono ?_
        rintro e w1 ⟨rfl, hg1⟩
        rw [HB1.out, C1.out, HM.out]
        generalize begV ((bl s).take 1) = v0
        go_wp2_with fail
        refine (begins_any _ _ (by rw [HZ2.out]; omega) (by rw [HZ2.out]; omega)).mono ?_
        rintro e w2 ⟨rfl, hg2⟩
        rw [HB2.out, C3.out]
        generalize begV ((bl s).take m) = v1
        generalize begN ((bl s).take m) = v2
        go_wp2_with fail
        go_ret3
        exact ⟨rfl, hg1.trans hg2⟩
    · obtain ⟨m, hm⟩ : ∃ m : Nat, begN ((bl s).take 1) = (m : Int) := ⟨(begN ((bl s).take 1)).toNat, by omega⟩
      have hm1 : s.size < m := by rw [bl_length] at c2; omega
      by_cases c3 : begB (bl s) = true
      · have eR : firR (bl s) = 0 := by unfold firR; rw [if_pos c1, if_neg c2]
        have eN : firN (bl s) = 0 := by unfold firN; rw [if_pos c1, if_neg c2]
        have eE : firE (bl s) = 23 := by unfold firE; rw [if_pos c1, if_neg c2, if_pos c3]
        rw [eR, eN, eE]
        have HM := Lib.hid hm; have C1 := Lib.hid c1; have C3 := Lib.hid c3
        clear c1 c2 c3 hm hnb hone eR eN eE hv hpos
        go_enter Tryd.func20, Tryd.ntmps20
        go_wp2_with fail
        refine (begins_any _ _ (by rw [HZ1.out]; omega) (by rw [HZ1.out]; omega)).mono ?_
        rintro e w1 ⟨rfl, hg1⟩
        rw [HB1.out, C1.out, HM.out]
        generalize begV ((bl s).take 1) = v0
        go_wp2_with fail
        refine (begins_any _ _ hp hs).mono ?_
        rintro e w2 ⟨rfl, hg2⟩
        rw [C3.out]
        generalize begV (bl s) = v1
        generalize begN (bl s) = v2
        go_wp2_with fail
        go_ret3
        exact ⟨rfl, hg1.trans hg2⟩
      · have eR : firR (bl s) = 0 := by unfold firR; rw [if_pos c1, if_neg c2]
        have eN : firN (bl s) = 0 := by unfold firN; rw [if_pos c1, if_neg c2]
        have eE : firE (bl s) = 3 := by unfold firE; rw [if_pos c1, if_neg c2, if_neg c3]
        rw [eR, eN, eE]
        have c3' : begB (bl s) = false := by simpa using c3
        have HM := Lib.hid hm; have C1 := Lib.hid c1; have C3 := Lib.hid c3'
        clear c1 c2 c3 c3' hm hnb hone eR eN eE hv hpos
        go_enter Tryd.func20, Tryd.ntmps20
        go_wp2_with fail
        refine (begins_any _ _ (by rw [HZ1.out]; omega) (by rw [HZ1.out]; omega)).mono ?_
        rintro e w1 ⟨rfl, hg1⟩
        rw [HB1.out, C1.out, HM.out]
        generalize begV ((bl s).take 1) = v0
        go_wp2_with fail
        refine (begins_any _ _ hp hs).mono ?_
        rintro e w2 ⟨rfl, hg2⟩
        rw [C3.out]
        generalize begV (bl s) = v1
        generalize begN (bl s) = v2
        go_wp2_with fail
        go_ret3
        exact ⟨rfl, hg1.trans hg2⟩
  · have eR : firR (bl s) = 0 := by unfold firR; rw [if_neg c1]
    have eN : firN (bl s) = 0 := by unfold firN; rw [if_neg c1]
    have eE : firE (bl s) = 6 := by unfold firE; rw [if_neg c1]
    rw [eR, eN, eE]
    have c1' : begB ((bl s).take 1) = false := by simpa using c1
    have C1 := Lib.hid c1'
    clear c1 c1' hnb hone eR eN eE hv
    go_enter Tryd.func20, Tryd.ntmps20
    go_wp2_with fail
    refine (begins_any _ _ (by rw [HZ1.out]; omega) (by rw [HZ1.out]; omega)).mono ?_
    rintro e w1 ⟨rfl, hg1⟩
    rw [HB1.out, C1.out]
    generalize begV ((bl s).take 1) = v0
    generalize begN ((bl s).take 1) = v2
    go_wp2_with fail
    go_ret3
    exact ⟨rfl, hg1⟩

/-- The reference's First computes what Decode does. -/
theorem first_dec_any (s : ByteArray) (w : World) (hp : 0 < s.size) (hs : s.size ≤ 140737488351232) :
    Calls Tryd.prog 20 #[.string s] w fun e w' => e = .returned (.tuple #[.int .i64 (decR (bl s)), .int .i64 (decN (bl s)), .int .i64 (decE (bl s))]) ∧ Gr w w' := by
  have h := first_dec (bl s) (by rw [ne_eq, bl_empty]; omega)
  rw [← h.1, ← h.2.1, ← h.2.2]
  exact first_any s w hp hs
end Go.Proofs.YtalommgkigacpaaDoor

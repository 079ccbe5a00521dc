/- The walk of the law Utf8Count: it returns true, and nothing that was there turns. -/
import Derived.Test.YtalommgkigacpaaDoorOffset
import Derived.Test.YtalommgkigacpaaDoorLawT
namespace Go.Proofs.YtalommgkigacpaaDoor
open Go.RowKit

set_option maxHeartbeats 2000000 in
set_option maxRecDepth 100000 in
theorem utf8Count_early (t : ByteArray) (i : Int) (s : ByteArray) (w : World) (hT : Tab w) (hs : s.size ≤ 140737488351232) (ht : Hid (shortB s 300 = t)) (hz : t.size ≤ 300) (E : Int) (C : Nat) (hE : Hid (errOf (bl t) = E))
    (h : ((E != 0) = true ∧ Hid (cntZ (bl t) = 0 ∧ ofR (bl t) i = 0 ∧ ofE (bl t) i = E)) ∨ (E = 0 ∧ i < 0 ∧ Hid (cntZ (bl t) = C ∧ (runOf (bl t)).length = C ∧ ofR (bl t) i = 0 ∧ ofE (bl t) i = 2)) ∨ (E = 0 ∧ 0 ≤ i ∧ (C : Int) < i ∧ Hid (cntZ (bl t) = C ∧ (runOf (bl t)).length = C ∧ ofR (bl t) i = 0 ∧ ofE (bl t) i = 2))) :
    Calls Tryd.prog 12 #[.string s, .int .i64 i] w fun e w' => e = .returned (.bool true) ∧ Gr w w' := by
  have T0 := Lib.hid hT
  clear hT
  rcases h with ⟨h0, hR⟩ | ⟨rfl, h0, hR⟩ | ⟨rfl, h0, h1, hR⟩
  · go_enter Tryd.func12, Tryd.ntmps12
    go_wp2_with fail
    refine (short_any s 300 _ hs (by decide)).mono ?_
    rintro e w' ⟨rfl, rfl⟩
    rw [ht.out]
    go_wp2_with fail
    refine (all_any t _ (by omega)).mono ?_
    rintro e w1 ⟨u, v, rfl, hu, hv, hg1⟩
    rw [hE.out]
    have T1 := Lib.hid (T0.out.gr hg1)
    clear hu hv
    generalize atOf 0 (bl t) = A
    go_wp2_with fail
    refine (count_any t _ (by omega)).mono ?_
    rintro e w2 ⟨rfl, hg2⟩
    rw [hR.out.1, hE.out]
    go_wp2_with fail
    refine (off_any t i _ (by omega)).mono ?_
    rintro e w3 ⟨rfl, hg3⟩
    rw [hR.out.2.1, hR.out.2.2]
    have T3 := Lib.hid ((T1.out.gr hg2).gr hg3)
    go_wp2_with fail
    refine (known_any _ T3.out).mono ?_
    rintro e w4 ⟨rfl, hg4⟩
    go_wp2_with fail
    go_ret
    exact ⟨rfl, ((hg1.trans hg2).trans hg3).trans hg4⟩
  all_goals
    go_enter Tryd.func12, Tryd.ntmps12
    go_wp2_with fail
    refine (short_any s 300 _ hs (by decide)).mono ?_
    rintro e w' ⟨rfl, rfl⟩
    rw [ht.out]
    go_wp2_with fail
    refine (all_any t _ (by omega)).mono ?_
    rintro e w1 ⟨u, v, rfl, hu, hv, hg1⟩
    rw [hE.out]
    have T1 := Lib.hid (T0.out.gr hg1)
    obtain ⟨a, cap, rfl, hcl⟩ := hu.form
    rw [hR.out.2.1]
    clear hu hv hcl
    generalize atOf 0 (bl t) = A
    go_wp2_with fail
    refine (count_any t _ (by omega)).mono ?_
    rintro e w2 ⟨rfl, hg2⟩
    rw [hR.out.1, hE.out]
    go_wp2_with fail
    refine (off_any t i _ (by omega)).mono ?_
    rintro e w3 ⟨rfl, hg3⟩
    rw [hR.out.2.2.1, hR.out.2.2.2]
    have T3 := Lib.hid ((T1.out.gr hg2).gr hg3)
    go_wp2_with fail
    refine (known_any _ T3.out).mono ?_
    rintro e w4 ⟨rfl, hg4⟩
    go_wp2_with fail
    go_ret
    exact ⟨rfl, ((hg1.trans hg2).trans hg3).trans hg4⟩

set_option maxHeartbeats 2000000 in
set_option maxRecDepth 100000 in
theorem utf8Count_main (t : ByteArray) (j : Nat) (s : ByteArray) (w : World) (hT : Tab w) (hs : s.size ≤ 140737488351232) (ht : Hid (shortB s 300 = t)) (hz : t.size ≤ 300) (C : Nat) (hE : Hid (errOf (bl t) = 0)) (hj : j ≤ C) (hC3 : C ≤ 300)
    (hR : Hid (cntZ (bl t) = C ∧ (runOf (bl t)).length = C ∧ ofE (bl t) j = 0 ∧ (offOf 0 (bl t)).length = C ∧ (j < C → ofR (bl t) j = (offOf 0 (bl t)).getD j 0) ∧ (C ≤ j → ofR (bl t) j = t.size))) :
    Calls Tryd.prog 12 #[.string s, .int .i64 j] w fun e w' => e = .returned (.bool true) ∧ Gr w w' := by
  have T0 := Lib.hid hT
  clear hT
  by_cases hlt : j < C
  all_goals
    go_enter Tryd.func12, Tryd.ntmps12
    go_wp2_with fail
    refine (short_any s 300 _ hs (by decide)).mono ?_
    rintro e w' ⟨rfl, rfl⟩
    rw [ht.out]
    go_wp2_with fail
    refine (all_any t _ (by omega)).mono ?_
    rintro e w1 ⟨u, v, rfl, hu, hv, hg1⟩
    rw [hE.out]
    have T1 := Lib.hid (T0.out.gr hg1)
    obtain ⟨a, cap, rfl, hcl⟩ := hu.form
    obtain ⟨a', cap', rfl, hcl'⟩ := hv.form
    rw [natsZ_len, hR.out.2.2.2.1, hR.out.2.1]
    have HCL := Lib.hid hcl'
    clear hu hv hcl hcl'
    generalize atOf 0 (bl t) = A
    go_wp2_with fail
    refine (count_any t _ (by omega)).mono ?_
    rintro e w2 ⟨rfl, hg2⟩
    rw [hR.out.1, hE.out]
    go_wp2_with fail
    refine (off_any t j _ (by omega)).mono ?_
    rintro e w3 ⟨rfl, hg3⟩
    rw [hR.out.2.2.1]
    have T3 := Lib.hid ((T1.out.gr hg2).gr hg3)
  · rw [hR.out.2.2.2.2.1 hlt]
    obtain ⟨g, rfl, hgl, hc⟩ := HCL.out j (by rw [natsZ_len, hR.out.2.2.2.1]; exact hlt)
    rw [natsZ_get] at hc
    have hlo : j < (offOf 0 (bl t)).length := by rw [hR.out.2.2.2.1]; exact hlt
    have e1 : (offOf 0 (bl t)).getD j 0 = (offOf 0 (bl t))[j] := by simp [hlo]
    rw [e1]
    have hG3 := hg2.trans hg3
    generalize (offOf 0 (bl t))[j] = OJ at *
    go_wp2_with fail
    refine (known_any _ T3.out).mono ?_
    rintro e w4 ⟨rfl, hg4⟩
    have hc4 := ((hG3.trans hg4).cell (p := ⟨g, j, none⟩) hgl).trans hc
    clear hc
    go_wp2_with fail
    go_ret
    exact ⟨rfl, ((hg1.trans hg2).trans hg3).trans hg4⟩
  · rw [hR.out.2.2.2.2.2 (by omega)]
    go_wp2_with fail
    refine (known_any _ T3.out).mono ?_
    rintro e w4 ⟨rfl, hg4⟩
    go_wp2_with fail
    go_ret
    exact ⟨rfl, ((hg1.trans hg2).trans hg3).trans hg4⟩

theorem utf8Count_walk (s : ByteArray) (i : Int) (w : World) (hT : Tab w) (hs : s.size ≤ 140737488351232) (_h1 : -9223372036854775808 ≤ i) (_h2 : i ≤ 9223372036854775807) :
    Calls Tryd.prog 12 #[.string s, .int .i64 i] w fun e w' => e = .returned (.bool true) ∧ Gr w w' := by
  have hz : (shortB s 300).size ≤ 300 := by rw [shortB_size]; omega
  generalize ht : shortB s 300 = t at *
  have hlo := len_run_off (bl t) 0
  have hl3 := len_run (bl t)
  rw [bl_length] at hl3
  by_cases h : errOf (bl t) = 0
  · have hC : cntZ (bl t) = ((runOf (bl t)).length : Int) := by unfold cntZ; rw [if_pos h]
    by_cases h1 : 0 ≤ i ∧ i ≤ (runOf (bl t)).length
    · obtain ⟨j, rfl⟩ := Int.eq_ofNat_of_zero_le h1.1
      have e1 : ofE (bl t) (j : Int) = 0 := by unfold ofE; rw [if_pos h, if_pos h1]
      refine utf8Count_main t j s w hT hs ht hz (runOf (bl t)).length h (by omega) (by omega) ⟨hC, rfl, e1, hlo.symm, fun hlt => ?_, fun hge => ?_⟩
      · unfold ofR; rw [if_pos ⟨h, h1⟩, Int.toNat_natCast, if_pos (by omega)]
      · unfold ofR; rw [if_pos ⟨h, h1⟩, Int.toNat_natCast, if_neg (by omega), bl_length]
    · have e1 : ofE (bl t) i = 2 := by unfold ofE; rw [if_pos h, if_neg h1]
      have e2 : ofR (bl t) i = 0 := by unfold ofR; rw [if_neg (fun x => h1 x.2)]
      by_cases h3 : 0 ≤ i
      · exact utf8Count_early t i s w hT hs ht hz 0 (runOf (bl t)).length h (.inr (.inr ⟨rfl, h3, by omega, hC, rfl, e2, e1⟩))
      · exact utf8Count_early t i s w hT hs ht hz 0 (runOf (bl t)).length h (.inr (.inl ⟨rfl, by omega, hC, rfl, e2, e1⟩))
  · have e1 : ofE (bl t) i = errOf (bl t) := by unfold ofE; rw [if_neg h]
    have e2 : ofR (bl t) i = 0 := by unfold ofR; rw [if_neg (fun x => h x.1)]
    have e3 : cntZ (bl t) = 0 := by unfold cntZ; rw [if_neg h]
    exact utf8Count_early t i s w hT hs ht hz _ 0 rfl (.inl ⟨by simpa using h, e3, e2, e1⟩)
end Go.Proofs.YtalommgkigacpaaDoor

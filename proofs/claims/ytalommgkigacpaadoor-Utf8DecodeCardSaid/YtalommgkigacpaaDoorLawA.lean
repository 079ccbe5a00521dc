/- The walks of the laws Utf8Check and Utf8Decode: each returns true, and nothing that was there turns. -/
import Derived.Test.YtalommgkigacpaaDoorKnown
namespace Go.Proofs.YtalommgkigacpaaDoor
open Go.RowKit

set_option maxHeartbeats 1000000 in
set_option maxRecDepth 100000 in
theorem utf8Check_walk (s : ByteArray) (w : World) (hT : Tab w) (hs : s.size ≤ 140737488351232) :
    Calls Tryd.prog 3 #[.string s] w fun e w' => e = .returned (.bool true) ∧ Gr w w' := by
  have T0 := Lib.hid hT
  have hz : (shortB s 400).size ≤ 400 := by rw [shortB_size]; omega
  clear hT
  go_enter Tryd.func3, Tryd.ntmps3
  go_wp2_with fail
  refine (short_any s 400 _ hs (by decide)).mono ?_
  rintro e w' ⟨rfl, rfl⟩
  generalize shortB s 400 = t at *
  go_wp2_with fail
  refine (all_any t _ (by omega)).mono ?_
  rintro e w1 ⟨u, v, rfl, _, _, hg1⟩
  have T1 := Lib.hid (T0.out.gr hg1)
  go_wp2_with fail
  refine (check_any t _ (by omega)).mono ?_
  rintro e w2 ⟨rfl, hg2⟩
  have T2 := Lib.hid (T1.out.gr hg2)
  generalize atOf 0 (bl t) = A at *
  go_wp2_with fail
  refine (known_any _ T2.out).mono ?_
  rintro e w3 ⟨rfl, hg3⟩
  go_wp2_with fail
  refine (valid_any t _ (by omega)).mono ?_
  rintro e w4 ⟨rfl, hg4⟩
  generalize errOf (bl t) = E at *
  go_wp2_with fail
  go_ret
  exact ⟨rfl, ((hg1.trans hg2).trans hg3).trans hg4⟩
theorem bl_enc (r : Int) : bl (strOfNums (encZ r)) = encL r := rfl

set_option maxHeartbeats 1000000 in
set_option maxRecDepth 100000 in
theorem utf8Decode_empty (s : ByteArray) (w : World) (hT : Tab w) (hs : s.size ≤ 140737488351232) (h0 : Hid (bl s = [])) (_he : s.toList.isEmpty = true) (he2 : s.toList = []) :
    Calls Tryd.prog 4 #[.string s] w fun e w' => e = .returned (.bool true) ∧ Gr w w' := by
  have T0 := Lib.hid hT
  clear hT
  go_enter Tryd.func4, Tryd.ntmps4
  go_wp2_with fail
  refine (known_any _ T0.out).mono ?_
  rintro e w1 ⟨rfl, hg1⟩
  go_wp2_with fail
  refine (decode_any s _ hs).mono ?_
  rintro e w2 ⟨rfl, hg2⟩
  rw [h0.out, show decR [] = 0 from rfl, show decN [] = 0 from rfl, show decE [] = 1 from rfl]
  go_wp2_with fail
  go_ret
  exact ⟨rfl, hg1.trans hg2⟩

set_option maxHeartbeats 1000000 in
set_option maxRecDepth 100000 in
theorem utf8Decode_some (s : ByteArray) (w : World) (hT : Tab w) (hs : s.size ≤ 140737488351232) (_he : s.toList.isEmpty = false) (_he2 : ¬ s.toList = []) (hp : 0 < s.size) :
    Calls Tryd.prog 4 #[.string s] w fun e w' => e = .returned (.bool true) ∧ Gr w w' := by
  have T0 := Lib.hid hT
  clear hT
  have key : 0 < (s.extract 0 (min (s.size : Int) 8).toNat).size ∧ (s.extract 0 (min (s.size : Int) 8).toNat).size ≤ 140737488351232 ∧ decE (bl (s.extract 0 (min (s.size : Int) 8).toNat)) = decE (bl s) ∧ decR (bl (s.extract 0 (min (s.size : Int) 8).toNat)) = decR (bl s) ∧ decN (bl (s.extract 0 (min (s.size : Int) 8).toNat)) = decN (bl s) := by
    rw [take_size s _ (by omega), bl_take]
    refine ⟨by omega, by omega, ?_⟩
    by_cases h : s.size ≤ 8
    · rw [List.take_of_length_le (by rw [bl_length]; omega)]; exact ⟨rfl, rfl, rfl⟩
    · exact dec_take8 _ _ (by omega)
  obtain ⟨p1, p2, p3, p4, p5⟩ := key
  have P3 := Lib.hid p3; have P4 := Lib.hid p4; have P5 := Lib.hid p5
  clear p3 p4 p5
  have hR := decR_scal (bl s)
  have HR := Lib.hid hR
  have hn := decN_le (bl s)
  rw [bl_length] at hn
  have R1 : 0 ≤ decR (bl s) := hR.1
  have R2 : decR (bl s) ≤ 1114111 := hR.2.1
  by_cases d : decE (bl s) = 0
  · have hE : strOfNums (encZ (decR (bl s))) = s.extract 0 (decN (bl s)) := by
      apply bl_inj; rw [bl_enc, bl_take]; exact (enc_dec _ d).1
    have HE := Lib.hid hE
    have D := Lib.hid d
    clear d hE hR
    go_enter Tryd.func4, Tryd.ntmps4
    go_wp2_with fail
    refine (known_any _ T0.out).mono ?_
    rintro e w1 ⟨rfl, hg1⟩
    have T1 := Lib.hid (T0.out.gr hg1)
    go_wp2_with fail
    refine (decode_any _ _ hs).mono ?_
    rintro e w2 ⟨rfl, hg2⟩
    have T2 := Lib.hid (T1.out.gr hg2)
    go_wp2_with fail
    refine (first_dec_any _ _ p1 p2).mono ?_
    rintro e w3 ⟨rfl, hg3⟩
    rw [P3.out, P4.out, P5.out, D.out]
    have T3 := Lib.hid (T2.out.gr hg3)
    go_wp2_with fail
    refine (encode_good _ _ HR.out T3.out).mono ?_
    rintro e w4 ⟨rfl, hg4⟩
    rw [HE.out]
    go_wp2_with fail
    go_ret
    exact ⟨rfl, ((hg1.trans hg2).trans hg3).trans hg4⟩
  · have D : (decE (bl s) != 0) = true := by simpa using d
    clear d hR
    go_enter Tryd.func4, Tryd.ntmps4
    go_wp2_with fail
    refine (known_any _ T0.out).mono ?_
    rintro e w1 ⟨rfl, hg1⟩
    have T1 := Lib.hid (T0.out.gr hg1)
    go_wp2_with fail
    refine (decode_any _ _ hs).mono ?_
    rintro e w2 ⟨rfl, hg2⟩
    have T2 := Lib.hid (T1.out.gr hg2)
    go_wp2_with fail
    refine (first_dec_any _ _ p1 p2).mono ?_
    rintro e w3 ⟨rfl, hg3⟩
    rw [P3.out, P4.out, P5.out]
    have T3 := Lib.hid (T2.out.gr hg3)
    go_wp2_with fail
    refine (encode_good _ _ HR.out T3.out).mono ?_
    rintro e w4 ⟨rfl, hg4⟩
    go_wp2_with fail
    go_ret
    exact ⟨rfl, ((hg1.trans hg2).trans hg3).trans hg4⟩

theorem utf8Decode_walk (s : ByteArray) (w : World) (hT : Tab w) (hs : s.size ≤ 140737488351232) :
    Calls Tryd.prog 4 #[.string s] w fun e w' => e = .returned (.bool true) ∧ Gr w w' := by
  by_cases h0 : bl s = []
  · have he2 : s.toList = [] := by rw [bl_toList, h0]
    exact utf8Decode_empty s w hT hs h0 (by rw [he2]; rfl) he2
  · have he2 : ¬ s.toList = [] := by rw [bl_toList]; exact h0
    have hp : 0 < s.size := by
      rcases Nat.eq_zero_or_pos s.size with h | h
      · exact absurd ((bl_empty s).2 h) h0
      · exact h
    exact utf8Decode_some s w hT hs (by simpa using he2) he2 hp
end Go.Proofs.YtalommgkigacpaaDoor

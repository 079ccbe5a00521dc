/- The walks of the laws Utf8Check and Utf8Decode: each returns true, and nothing that was there turns. -/
import Derived.Test.YtalommgkigacpaaDoorKnown
namespace Go.Proofs.YtalommgkigacpaaDoor
open Go.RowKit

set_option maxHeartbeats 1000000 in
set_option maxRecDepth 100000 in
theorem utf8Check_walk (s : ByteArray) (w : World) (hT : Tab w) (hs : s.size ≤ 140737488351232) :
    Calls Tryd.prog 3 #[.string s] w fun e w' => e = .returned (.bool true) ∧ Gr w w' := by
  have T0 := Lib.hid hT
  have hz : (shortB s 400).size ≤ 400 := by rw [shortB_size]; omega
  clear hT
  go_enter Tryd.func3, Tryd.ntmps3
  go_wp2_with fail
  refine (short_any s 400 _ hs (by decide)).mono ?_
  rintro e w' ⟨rfl, rfl⟩
  generalize shortB s 400 = t at *
  go_wp2_with fail
  refine (all_any t _ (by omega)).mono ?_
  rintro e w1 ⟨u, v, rfl, _, _, hg1⟩
  have T1 := Lib.hid (T0.out.gr hg1)
  go_wp2_with fail
  refine (check_any t _ (by omega)).mono ?_
  rintro e w2 ⟨rfl, hg2⟩
  have T2 := Lib.hid (T1.out.gr hg2)
  generalize atOf 0 (bl t) = A at *
  go_wp2_with fail
  refine (known_any _ T2.out).mono ?_
  rintro e w3 ⟨rfl, hg3⟩
  go_wp2_with fail
  refine (valid_any t _ (by omega)).mono ?_
  rintro e w4 ⟨rfl, hg4⟩
  generalize errOf (bl t) = E at *
  go_wp2_with fail
  go_ret
  exact ⟨rfl, ((hg1.trans hg2).trans hg3).trans hg4⟩
end Go.Proofs.YtalommgkigacpaaDoor

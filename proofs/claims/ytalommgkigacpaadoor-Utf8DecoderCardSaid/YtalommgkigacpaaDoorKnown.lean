/- The contract of the law's 'known': the document's examples hold. -/
import Derived.Test.YtalommgkigacpaaDoorRepair
namespace Go.Proofs.YtalommgkigacpaaDoor
open Go.RowKit

theorem kE9 : strOfNums (encZ 233) = ⟨#[195, 169]⟩ := by decide +kernel
theorem k20AC : strOfNums (encZ 8364) = ⟨#[226, 130, 172]⟩ := by decide +kernel
theorem kA : atOf 0 (bl ⟨#[97, 195]⟩) = 1 ∧ errOf (bl ⟨#[97, 195]⟩) = 23 := by decide +kernel
theorem kB : atOf 0 (bl ⟨#[97, 195, 40]⟩) = 1 ∧ errOf (bl ⟨#[97, 195, 40]⟩) = 3 := by decide +kernel
theorem kD : decR (bl ⟨#[226, 130, 172, 120]⟩) = 8364 ∧ decN (bl ⟨#[226, 130, 172, 120]⟩) = 3 ∧ decE (bl ⟨#[226, 130, 172, 120]⟩) = 0 := by decide +kernel
theorem kV : (errOf (bl ⟨#[97, 195, 169]⟩) == 0) = true := by decide +kernel
theorem kW : (errOf (bl ⟨#[237, 160, 128]⟩) == 0) = false := by decide +kernel
theorem kR : (⟨(rep (bl ⟨#[97, 226, 130, 98, 128]⟩)).toArray⟩ : ByteArray) = ⟨#[97, 239, 191, 189, 98, 239, 191, 189]⟩ := by decide +kernel

set_option maxHeartbeats 1000000 in
set_option maxRecDepth 100000 in
/-- law's known. -/
theorem known_any (w : World) (hT : Tab w) : Calls Tryd.prog 17 #[] w fun e w' => e = .returned (.bool true) ∧ Gr w w' := by
  have T0 := Lib.hid hT
  clear hT
  go_enter Tryd.func17, Tryd.ntmps17
  go_wp2_with fail
  refine (encode_good 233 _ (by decide) T0.out).mono ?_
  rintro e w1 ⟨rfl, hg1⟩
  rw [kE9]
  have T1 := Lib.hid (T0.out.gr hg1)
  go_wp2_with fail
  refine (encode_good 8364 _ (by decide) T1.out).mono ?_
  rintro e w2 ⟨rfl, hg2⟩
  rw [k20AC]
  have T2 := Lib.hid (T1.out.gr hg2)
  go_wp2_with fail
  refine (check_any _ _ (by decide)).mono ?_
  rintro e w3 ⟨rfl, hg3⟩
  rw [kA.1, kA.2]
  have T3 := Lib.hid (T2.out.gr hg3)
  go_wp2_with fail
  refine (check_any _ _ (by decide)).mono ?_
  rintro e w4 ⟨rfl, hg4⟩
  rw [kB.1, kB.2]
  have T4 := Lib.hid (T3.out.gr hg4)
  go_wp2_with fail
  refine (decode_any _ _ (by decide)).mono ?_
  rintro e w5 ⟨rfl, hg5⟩
  rw [kD.1, kD.2.1, kD.2.2]
  have T5 := Lib.hid (T4.out.gr hg5)
  go_wp2_with fail
  refine (valid_any _ _ (by decide)).mono ?_
  rintro e w6 ⟨rfl, hg6⟩
  rw [kV]
  have T6 := Lib.hid (T5.out.gr hg6)
  go_wp2_with fail
  refine (valid_any _ _ (by decide)).mono ?_
  rintro e w7 ⟨rfl, hg7⟩
  rw [kW]
  have T7 := Lib.hid (T6.out.gr hg7)
  go_wp2_with fail
  refine (repair_any _ _ T7.out (by decide)).mono ?_
  rintro e w8 ⟨rfl, hg8⟩
  rw [kR]
  go_wp2_with fail
  go_ret
  exact ⟨rfl, ((((((hg1.trans hg2).trans hg3).trans hg4).trans hg5).trans hg6).trans hg7).trans hg8⟩
end Go.Proofs.YtalommgkigacpaaDoor

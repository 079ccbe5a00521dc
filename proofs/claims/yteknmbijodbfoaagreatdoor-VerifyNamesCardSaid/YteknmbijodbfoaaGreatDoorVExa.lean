/- The example of the statement's known(), reckoned. -/
import Derived.Test.YteknmbijodbfoaaGreatDoorBZ
import Derived.Test.YteknmbijodbfoaaGreatDoorBV
namespace Go.Proofs.YteknmbijodbfoaaGreatDoor
open Go.RowKit

def teaS : ByteArray := ⟨#[116, 101, 97]⟩
def tenS : ByteArray := ⟨#[116, 101, 110]⟩
theorem rootS_rootK : rootS seed0 = rootK := rfl
theorem pub_rootK : pubT 1 rootK = keyL := by
  unfold pubT; rw [rootK_list]; exact keyL_eq
theorem vals_any (s : ByteArray) : valsK authK rootK s = [eS, bs (hexT authL), zS, aS, s, eS, eS, eS, eS, zS ++ ⟨#[32]⟩ ++ bs keyL, zS] := by
  have e1 : autT authK = hexT authL := by unfold autT; rw [authK_list]
  unfold valsK keyS; rw [e1, pub_rootK]
theorem form_tea : formL authK rootK teaS = fillL authL teaL keyL := by
  unfold formL; rw [vals_any]; decide +kernel
theorem form_ten : formL authK rootK tenS = fillL authL tenL keyL := by
  unfold formL; rw [vals_any]; decide +kernel
theorem ok_tea (c : Nat) (h : 1 ≤ c) : Ok authK rootK teaS c := ⟨by decide +kernel, by decide +kernel, by decide, h, by rw [pub_rootK]; rfl, by rw [form_tea]; decide +kernel⟩
theorem ok_ten (c : Nat) (h : 1 ≤ c) : Ok authK rootK tenS c := ⟨by decide +kernel, by decide +kernel, by decide, h, by rw [pub_rootK]; rfl, by rw [form_ten]; decide +kernel⟩
/-- The signature of the example. -/
def sigK : Nat → V16 := sigV seed0 0 (half (formL authK rootK teaS))
theorem root_tea : rootV (half (formL authK rootK teaS)) ⟨0, sigK, [lfV seed0 1]⟩ = rootK := by
  show climbV 0 0 (leafV 0 (recV 0 (half (formL authK rootK teaS)) (sigV seed0 0 (half (formL authK rootK teaS)))).toList) [lfV seed0 1] = rootK
  rw [recV_sigV]; rfl
theorem root_ten : rootV (half (formL authK rootK tenS)) ⟨0, sigK, [lfV seed0 1]⟩ ≠ rootK := by
  have h := forged_root (half (formL authK rootK teaS)) (half (formL authK rootK tenS)) (by rw [half_list, form_tea]; exact dig1_eq) (by rw [half_list, form_ten]; exact dig2_eq)
  exact h
end Go.Proofs.YteknmbijodbfoaaGreatDoor

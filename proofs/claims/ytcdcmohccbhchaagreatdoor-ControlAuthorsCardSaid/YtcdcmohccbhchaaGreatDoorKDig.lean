/- The reference's digit: a hexadecimal digit's value, or -1. -/
import Derived.Test.YtcdcmohccbhchaaGreatDoorKHex
import Derived.Test.YtcdcmohccbhchaaGreatDoorKW1
namespace Go.Proofs.YtcdcmohccbhchaaGreatDoor
open Go.RowKit

theorem hexV_if : ∀ c : UInt8, hexV c = if 48 ≤ c.toNat ∧ c.toNat ≤ 57 then (c.toNat : Int) - 48 else if 97 ≤ c.toNat ∧ c.toNat ≤ 102 then (c.toNat : Int) - 87 else -1 := all_u8 (by decide +kernel)
set_option maxRecDepth 100000 in
set_option maxHeartbeats 1000000 in
theorem digitC (c : UInt8) (w : World) : Calls Tryz.prog 58 #[.int .u8 (c.toNat : Int)] w fun e w' => e = .returned (.int .i64 (hexV c)) ∧ w = w' := by
  have hb := c.toNat_lt
  have HV := Lib.hid (hexV_if c)
  generalize hexV c = v at *
  generalize c.toNat = n at *
  by_cases h1 : 48 ≤ n
  · by_cases h2 : n ≤ 57
    · have i1 : (48 : Int) ≤ (n : Int) := by omega
      have i2 : (n : Int) ≤ 57 := by omega
      have hw : IntKind.u8.wrap ((n : Int) - 48) = (n : Int) - 48 := by rw [IntKind.wrap_u8]; omega
      have hz : IntKind.i64.wrap ((n : Int) - 48) = (n : Int) - 48 := by rw [IntKind.wrap_i64]; omega
      go_enter Tryz.func58, Tryz.ntmps58
      go_wp2_with fail
      go_ret
      exact ⟨ret_int (by rw [HV.out, if_pos ⟨h1, h2⟩]), rfl⟩
    · have i1 : (48 : Int) ≤ (n : Int) := by omega
      have i2 : ¬ (n : Int) ≤ 57 := by omega
      by_cases h3 : 97 ≤ n
      · have i3 : (97 : Int) ≤ (n : Int) := by omega
        by_cases h4 : n ≤ 102
        · have i4 : (n : Int) ≤ 102 := by omega
          have hw : IntKind.u8.wrap ((n : Int) - 97) = (n : Int) - 97 := by rw [IntKind.wrap_u8]; omega
          have hz : IntKind.i64.wrap ((n : Int) - 97) = (n : Int) - 97 := by rw [IntKind.wrap_i64]; omega
          have hy : IntKind.i64.wrap ((n : Int) - 97 + 10) = (n : Int) - 97 + 10 := by rw [IntKind.wrap_i64]; omega
          go_enter Tryz.func58, Tryz.ntmps58
          go_wp2_with fail
          go_ret
          exact ⟨ret_int (by rw [HV.out, if_neg (by omega), if_pos ⟨h3, h4⟩]; omega), rfl⟩
        · have i4 : ¬ (n : Int) ≤ 102 := by omega
          go_enter Tryz.func58, Tryz.ntmps58
          go_wp2_with fail
          go_ret
          exact ⟨ret_int (by rw [HV.out, if_neg (by omega), if_neg (by omega)]), rfl⟩
      · have i3 : ¬ (97 : Int) ≤ (n : Int) := by omega
        go_enter Tryz.func58, Tryz.ntmps58
        go_wp2_with fail
        go_ret
        exact ⟨ret_int (by rw [HV.out, if_neg (by omega), if_neg (by omega)]), rfl⟩
  · have i1 : ¬ (48 : Int) ≤ (n : Int) := by omega
    have i3 : ¬ (97 : Int) ≤ (n : Int) := by omega
    go_enter Tryz.func58, Tryz.ntmps58
    go_wp2_with fail
    go_ret
    exact ⟨ret_int (by rw [HV.out, if_neg (by omega), if_neg (by omega)]), rfl⟩
end Go.Proofs.YtcdcmohccbhchaaGreatDoor

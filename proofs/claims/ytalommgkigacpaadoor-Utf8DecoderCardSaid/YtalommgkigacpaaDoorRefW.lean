/- The contract of the reference's Write. -/
import Derived.Test.YtalommgkigacpaaDoorLawP
import Derived.Deep.QuietTactic
import Derived.BigQuiet
namespace Go.Proofs.YtalommgkigacpaaDoor
open Go.RowKit

set_option maxHeartbeats 1000000 in
theorem refW_err (p t : ByteArray) (w : World) (h1 : p.size ≤ 10000) (h2 : t.size ≤ 10000) (E : Int) (hE : Hid (errOf (bl (p ++ t)) = E)) (e0 : (E != 0) = true) (e23 : (E != 23) = true) :
    Calls Tryd.prog 36 #[.string p, .string t] w fun e w' => e = .returned (.tuple #[.string ⟨#[]⟩, .string p, .int .i64 E]) ∧ Gr w w' := by
  go_enter Tryd.func36, Tryd.ntmps36
  go_wp2_with fail
  refine (all_any _ _ (by rw [ByteArray.size_append]; omega)).mono ?_
  rintro e w1 ⟨u, v, rfl, _, _, hg1⟩
  rw [hE.out]
  generalize atOf 0 (bl (p ++ t)) = A
  go_wp2_with fail
  go_ret3
  exact ⟨rfl, hg1⟩
set_option maxHeartbeats 1000000 in
theorem refW_0 (p t : ByteArray) (w : World) (h1 : p.size ≤ 10000) (h2 : t.size ≤ 10000) (hE : Hid (errOf (bl (p ++ t)) = 0)) :
    Calls Tryd.prog 36 #[.string p, .string t] w fun e w' => e = .returned (.tuple #[.string (p ++ t), .string ⟨#[]⟩, .int .i64 0]) ∧ Gr w w' := by
  go_enter Tryd.func36, Tryd.ntmps36
  go_wp2_with fail
  refine (all_any _ _ (by rw [ByteArray.size_append]; omega)).mono ?_
  rintro e w1 ⟨u, v, rfl, _, _, hg1⟩
  rw [hE.out]
  generalize atOf 0 (bl (p ++ t)) = A
  go_wp2_with fail
  go_ret3
  exact ⟨rfl, hg1⟩
set_option maxHeartbeats 1000000 in
theorem refW_23 (p t : ByteArray) (w : World) (h1 : p.size ≤ 10000) (h2 : t.size ≤ 10000) (hE : Hid (errOf (bl (p ++ t)) = 23)) (A : Nat) (hA : Hid (atOf 0 (bl (p ++ t)) = A)) (h3 : A ≤ p.size + t.size) :
    Calls Tryd.prog 36 #[.string p, .string t] w fun e w' => e = .returned (.tuple #[.string ((p ++ t).extract 0 A), .string ((p ++ t).extract A (p.size + t.size)), .int .i64 0]) ∧ Gr w w' := by
  have hz : (p ++ t).size = p.size + t.size := ByteArray.size_append
  have HZ := Lib.hid hz
  clear hz
  go_enter Tryd.func36, Tryd.ntmps36
  go_wp2_with fail
  refine (all_any _ _ (by rw [ByteArray.size_append]; omega)).mono ?_
  rintro e w1 ⟨u, v, rfl, _, _, hg1⟩
  rw [hE.out, hA.out]
  go_wp2_with fail
  go_quiet (fail)
  go_wp2_with fail
  go_ret3
  exact ⟨rfl, hg1.drewN _⟩

/-- Slices of bytes that came in, in a slice that came in. -/
def RowsIn2 (w : World) (a : Option Addr) (len : Nat) : Prop := ∀ j, j < len → ∃ blk off, a = some ⟨blk, off, none⟩ ∧ blk < w.heap.size ∧ ∃ a2 l2 c2, w.cell? ⟨blk, off + j, none⟩ = some (.slice a2 l2 c2) ∧ l2 ≤ c2 ∧ c2 ≤ 9223372036854775807 ∧ BytesIn w a2 l2
/-- Bools that came in. -/
def BoolsIn (w : World) (a : Option Addr) (len : Nat) : Prop := ∀ j, j < len → ∃ blk off, a = some ⟨blk, off, none⟩ ∧ blk < w.heap.size ∧ ∃ c : Bool, w.cell? ⟨blk, off + j, none⟩ = some (.bool c)
end Go.Proofs.YtalommgkigacpaaDoor

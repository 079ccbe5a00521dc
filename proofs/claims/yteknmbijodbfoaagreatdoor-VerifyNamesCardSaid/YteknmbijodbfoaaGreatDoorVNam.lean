/- verify.Name. -/
import Derived.Test.YteknmbijodbfoaaGreatDoorVTab
namespace Go.Proofs.YteknmbijodbfoaaGreatDoor
open Go.RowKit

def nameV (n : Int) : ByteArray := if n < 0 ∨ 4 ≤ n then eS else (namesK[n.toNat]?).getD eS
set_option maxRecDepth 100000 in
theorem nameC (n : Int) (w : World) (h : VTabs w) : Calls Tryz.prog 5 #[.int .i64 n] w fun e w' => e = .returned (.string (nameV n)) ∧ w' = w := by
  have c0 := h.n 0 _ rfl
  have c1 := h.n 1 _ rfl
  have c2 := h.n 2 _ rfl
  have c3 := h.n 3 _ rfl
  have hz := World.block_lt_of_cell? w _ c0
  clear h
  by_cases h0 : n < 0
  · have hv : nameV n = eS := by unfold nameV; rw [if_pos (Or.inl h0)]
    have hd : decide (n < 0) = true := decide_eq_true h0
    rw [hv]
    go_enter Tryz.func5, Tryz.ntmps5
    go_wp2_with fail
    go_ret
    exact ⟨rfl, rfl⟩
  · have hd : decide (n < 0) = false := decide_eq_false h0
    by_cases h4 : 4 ≤ n
    · have hv : nameV n = eS := by unfold nameV; rw [if_pos (Or.inr h4)]
      have hd4 : decide (4 ≤ n) = true := decide_eq_true h4
      rw [hv]
      go_enter Tryz.func5, Tryz.ntmps5
      go_wp2_with fail
      go_ret
      exact ⟨rfl, rfl⟩
    · have hc : n = 0 ∨ n = 1 ∨ n = 2 ∨ n = 3 := by omega
      rcases hc with rfl | rfl | rfl | rfl
      all_goals
        go_enter Tryz.func5, Tryz.ntmps5
        go_wp2_with fail
        go_ret
        exact ⟨rfl, rfl⟩
end Go.Proofs.YteknmbijodbfoaaGreatDoor

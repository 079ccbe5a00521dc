/- The small functions of control commands: names of kinds, zero identities, heights. -/
import Derived.Test.YtcdcmohccbhchaaGreatDoorKBld
namespace Go.Proofs.YtcdcmohccbhchaaGreatDoor
open Go.RowKit

def kindS (k : Int) : ByteArray := bs (kindName k)
set_option maxHeartbeats 1000000 in
theorem kindNameC (k : Int) (w : World) : Calls Tryz.prog 28 #[.int .i64 k] w fun e w' => e = .returned (.string (kindS k)) ∧ w = w' := by
  go_enter Tryz.func28, Tryz.ntmps28
  go_wp2
  all_goals
    go_ret
    refine ⟨?_, rfl⟩
    simp_all [kindS, kindName, bs]
set_option maxHeartbeats 1000000 in
theorem permanentC (k : Int) (w : World) : Calls Tryz.prog 30 #[.int .i64 k] w fun e w' => e = .returned (.bool (decide (k = 3 ∨ k = 4 ∨ k = 5))) ∧ w = w' := by
  go_enter Tryz.func30, Tryz.ntmps30
  go_wp2
  all_goals
    go_ret
    refine ⟨ret_bool ?_, rfl⟩
    rw [Bool.eq_iff_iff]
    simp
    omega
set_option maxHeartbeats 1000000 in
theorem refNameC (k : Int) (w : World) : Calls Tryz.prog 29 #[.int .i64 k] w fun e w' => e = .returned (.string (kindS k)) ∧ Gr w w' := by
  by_cases h : 1 ≤ k ∧ k ≤ 5
  · have hk : k = 1 ∨ k = 2 ∨ k = 3 ∨ k = 4 ∨ k = 5 := by omega
    rcases hk with rfl | rfl | rfl | rfl | rfl
    all_goals
      go_enter Tryz.func29, Tryz.ntmps29
      go_wp2
      go_ret
      exact ⟨rfl, (Gr.refl w).alloc _⟩
  · have hk : Hid (kindS k = ⟨#[]⟩) := by
      show _ = _; unfold kindS kindName
      rw [if_neg (by omega), if_neg (by omega), if_neg (by omega), if_neg (by omega), if_neg (by omega)]; rfl
    go_enter Tryz.func29, Tryz.ntmps29
    go_wp2
    all_goals
      first
        | (exfalso; omega)
        | (go_ret; exact ⟨by rw [hk.out]; rfl, Gr.refl w⟩)
set_option maxHeartbeats 1000000 in
theorem checkHeightC (h : Int) (w : World) : Calls Tryz.prog 71 #[.int .i64 h] w fun e w' => e = .returned (.int .i64 (heightErr h)) ∧ w = w' := by
  go_enter Tryz.func71, Tryz.ntmps71
  go_wp2
  all_goals
    go_ret
    refine ⟨ret_int ?_, rfl⟩
    unfold heightErr
    split <;> first | rfl | omega
set_option maxRecDepth 100000 in
set_option maxHeartbeats 1000000 in
theorem isZeroC (i : Id) (w : World) : Calls Tryz.prog 41 #[.agg (bC i).toArray] w fun e w' => e = .returned (.bool (i == zId)) ∧ Gr w w' := by
  go_enter Tryz.func41, Tryz.ntmps41
  go_wp2
  go_ret
  exact ⟨rfl, (Gr.refl w).alloc _⟩
set_option maxRecDepth 100000 in
set_option maxHeartbeats 1000000 in
theorem pubCheckC (h : Int) (r : Aut) (w : World) : Calls Tryz.prog 43 #[.agg (pubC h r).toArray] w fun e w' => e = .returned (.int .i64 (heightErr h)) ∧ Gr w w' := by
  go_enter Tryz.func43, Tryz.ntmps43
  go_wp2_with (go_at_call 71; refine (checkHeightC _ _).mono ?_; rintro e w' ⟨rfl, rfl⟩)
  go_ret
  exact ⟨rfl, (Gr.refl w).alloc _⟩
end Go.Proofs.YtcdcmohccbhchaaGreatDoor

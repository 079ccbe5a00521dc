/- The law ControlKinds: for every kind it returns true. -/
import Derived.Test.YtcdcmohccbhchaaGreatDoorKKnw
namespace Go.Proofs.YtcdcmohccbhchaaGreatDoor
open Go.RowKit

set_option maxRecDepth 100000 in
set_option maxHeartbeats 1000000 in
theorem wKinds (k : Int) (w : World) (hE : Env w) : Calls Tryz.prog 11 #[.int .i64 k] w fun e w' => e = .returned (.bool true) ∧ Gr w w' := by
  have HK := Lib.hid (knownC w hE)
  have hb : ((kindS k).toList == (kindS k).toList) = true := by simp
  have HP : Hid (∀ W, Calls Tryz.prog 30 #[.int .i64 k] W fun e w' => e = .returned (.bool (decide (k = 3 ∨ k = 4 ∨ k = 5))) ∧ W = w') := permanentC k
  clear hE
  generalize hpv : decide (k = 3 ∨ k = 4 ∨ k = 5) = pv at *
  go_enter Tryz.func11, Tryz.ntmps11
  go_wp2_with fail
  refine HK.out.mono ?_
  rintro e w1 ⟨rfl, hg1⟩
  have HG1 := Lib.hid hg1
  clear hg1
  go_wp2_with (first | (go_at_call 28; refine (kindNameC _ _).mono ?_; rintro e w' ⟨rfl, rfl⟩) | (go_at_call 29; refine (refNameC _ _).mono ?_; rintro e w2 ⟨rfl, hg2⟩) | (go_at_call 30; refine (HP.out _).mono ?_; rintro e w' ⟨rfl, rfl⟩))
  all_goals
    go_ret
    refine ⟨ret_bool ?_, HG1.out.trans hg2⟩
    subst hpv
    by_cases q3 : k = 3 <;> by_cases q4 : k = 4 <;> by_cases q5 : k = 5 <;> simp_all
end Go.Proofs.YtcdcmohccbhchaaGreatDoor

/- The law VerifyNames. -/
import Derived.Test.YteknmbijodbfoaaGreatDoorVKnw
import Derived.Test.YteknmbijodbfoaaGreatDoorVNam
namespace Go.Proofs.YteknmbijodbfoaaGreatDoor
open Go.RowKit

set_option maxRecDepth 100000 in
set_option maxHeartbeats 2000000 in
theorem wVerifyNames (n : Int) (w : World) (hT : VTabs w) : Calls Tryz.prog 3 #[.int .i64 n] w fun e w' => e = .returned (.bool true) ∧ Gr w w' := by
  have HK := Lib.hid (knownC w hT)
  have HT := Lib.hid hT
  have HN2 : Hid (∀ W, VTabs W → Calls Tryz.prog 5 #[.int .i64 2] W fun e w' => e = .returned (.string ⟨#[118, 111, 105, 100]⟩) ∧ w' = W) := fun W h => nameC 2 W h
  clear hT
  by_cases h0 : n < 0
  · have HN1 : Hid (∀ W, VTabs W → Calls Tryz.prog 5 #[.int .i64 n] W fun e w' => e = .returned (.string ⟨#[]⟩) ∧ w' = W) := fun W h => by
      have := nameC n W h
      rw [show nameV n = eS by unfold nameV; rw [if_pos (Or.inl h0)]] at this
      exact this
    have hd : decide (0 ≤ n) = false := decide_eq_false (by omega)
    clear h0
    go_enter Tryz.func3, Tryz.ntmps3
    go_wp2_with (first
      | (go_at_call 4; refine HK.out.mono ?_; rintro e w1 ⟨rfl, g1⟩)
      | (go_at_call 5; with_reducible refine (HN1.out _ (HT.out.gr g1)).mono ?_; rintro e w2 ⟨rfl, rfl⟩)
      | (go_at_call 5; with_reducible refine (HN2.out _ (HT.out.gr g1)).mono ?_; rintro e w3 ⟨rfl, rfl⟩))
    go_ret
    exact ⟨rfl, g1⟩
  · by_cases h4 : 4 ≤ n
    · have HN1 : Hid (∀ W, VTabs W → Calls Tryz.prog 5 #[.int .i64 n] W fun e w' => e = .returned (.string ⟨#[]⟩) ∧ w' = W) := fun W h => by
        have := nameC n W h
        rw [show nameV n = eS by unfold nameV; rw [if_pos (Or.inr h4)]] at this
        exact this
      have hd : decide (0 ≤ n) = true := decide_eq_true (by omega)
      have hd2 : decide (n < 4) = false := decide_eq_false (by omega)
      clear h0 h4
      go_enter Tryz.func3, Tryz.ntmps3
      go_wp2_with (first
        | (go_at_call 4; refine HK.out.mono ?_; rintro e w1 ⟨rfl, g1⟩)
        | (go_at_call 5; with_reducible refine (HN1.out _ (HT.out.gr g1)).mono ?_; rintro e w2 ⟨rfl, rfl⟩)
        | (go_at_call 5; with_reducible refine (HN2.out _ (HT.out.gr g1)).mono ?_; rintro e w3 ⟨rfl, rfl⟩))
      go_ret
      exact ⟨rfl, g1⟩
    · have hc : n = 0 ∨ n = 1 ∨ n = 2 ∨ n = 3 := by omega
      clear h0 h4
      rcases hc with rfl | rfl | rfl | rfl
      · have HNX : Hid (∀ W, VTabs W → Calls Tryz.prog 5 #[.int .i64 0] W fun e w' => e = .returned (.string ⟨#[103, 101, 110, 117, 105, 110, 101]⟩) ∧ w' = W) := fun W h => nameC 0 W h
        go_enter Tryz.func3, Tryz.ntmps3
        go_wp2_with (first
          | (go_at_call 4; refine HK.out.mono ?_; rintro e w1 ⟨rfl, g1⟩; have ga := g1.alloc (.cells #[Value.string ⟨#[103, 101, 110, 117, 105, 110, 101]⟩, .string ⟨#[117, 110, 98, 111, 117, 110, 100]⟩, .string ⟨#[118, 111, 105, 100]⟩, .string ⟨#[102, 111, 114, 103, 101, 100]⟩] 9))
          | (go_at_call 5; with_reducible refine (HNX.out _ (HT.out.gr ga)).mono ?_; rintro e w2 ⟨rfl, rfl⟩)
          | (go_at_call 5; with_reducible refine (HN2.out _ (HT.out.gr ga)).mono ?_; rintro e w2 ⟨rfl, rfl⟩))
        go_ret
        exact ⟨rfl, ga⟩
      · have HNX : Hid (∀ W, VTabs W → Calls Tryz.prog 5 #[.int .i64 1] W fun e w' => e = .returned (.string ⟨#[117, 110, 98, 111, 117, 110, 100]⟩) ∧ w' = W) := fun W h => nameC 1 W h
        go_enter Tryz.func3, Tryz.ntmps3
        go_wp2_with (first
          | (go_at_call 4; refine HK.out.mono ?_; rintro e w1 ⟨rfl, g1⟩; have ga := g1.alloc (.cells #[Value.string ⟨#[103, 101, 110, 117, 105, 110, 101]⟩, .string ⟨#[117, 110, 98, 111, 117, 110, 100]⟩, .string ⟨#[118, 111, 105, 100]⟩, .string ⟨#[102, 111, 114, 103, 101, 100]⟩] 9))
          | (go_at_call 5; with_reducible refine (HNX.out _ (HT.out.gr ga)).mono ?_; rintro e w2 ⟨rfl, rfl⟩)
          | (go_at_call 5; with_reducible refine (HN2.out _ (HT.out.gr ga)).mono ?_; rintro e w2 ⟨rfl, rfl⟩))
        go_ret
        exact ⟨rfl, ga⟩
      · have HNX : Hid (∀ W, VTabs W → Calls Tryz.prog 5 #[.int .i64 2] W fun e w' => e = .returned (.string ⟨#[118, 111, 105, 100]⟩) ∧ w' = W) := fun W h => nameC 2 W h
        go_enter Tryz.func3, Tryz.ntmps3
        go_wp2_with (first
          | (go_at_call 4; refine HK.out.mono ?_; rintro e w1 ⟨rfl, g1⟩; have ga := g1.alloc (.cells #[Value.string ⟨#[103, 101, 110, 117, 105, 110, 101]⟩, .string ⟨#[117, 110, 98, 111, 117, 110, 100]⟩, .string ⟨#[118, 111, 105, 100]⟩, .string ⟨#[102, 111, 114, 103, 101, 100]⟩] 9))
          | (go_at_call 5; with_reducible refine (HNX.out _ (HT.out.gr ga)).mono ?_; rintro e w2 ⟨rfl, rfl⟩)
          | (go_at_call 5; with_reducible refine (HN2.out _ (HT.out.gr ga)).mono ?_; rintro e w2 ⟨rfl, rfl⟩))
        go_ret
        exact ⟨rfl, ga⟩
      · have HNX : Hid (∀ W, VTabs W → Calls Tryz.prog 5 #[.int .i64 3] W fun e w' => e = .returned (.string ⟨#[102, 111, 114, 103, 101, 100]⟩) ∧ w' = W) := fun W h => nameC 3 W h
        go_enter Tryz.func3, Tryz.ntmps3
        go_wp2_with (first
          | (go_at_call 4; refine HK.out.mono ?_; rintro e w1 ⟨rfl, g1⟩; have ga := g1.alloc (.cells #[Value.string ⟨#[103, 101, 110, 117, 105, 110, 101]⟩, .string ⟨#[117, 110, 98, 111, 117, 110, 100]⟩, .string ⟨#[118, 111, 105, 100]⟩, .string ⟨#[102, 111, 114, 103, 101, 100]⟩] 9))
          | (go_at_call 5; with_reducible refine (HNX.out _ (HT.out.gr ga)).mono ?_; rintro e w2 ⟨rfl, rfl⟩)
          | (go_at_call 5; with_reducible refine (HN2.out _ (HT.out.gr ga)).mono ?_; rintro e w2 ⟨rfl, rfl⟩))
        go_ret
        exact ⟨rfl, ga⟩
end Go.Proofs.YteknmbijodbfoaaGreatDoor

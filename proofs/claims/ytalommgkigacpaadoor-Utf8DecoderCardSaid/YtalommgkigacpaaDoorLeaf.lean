/- The contracts of utf8.length and utf8.continues: what each returns, for every byte and index; the world is as it was. -/
import Derived.Test.YtalommgkigacpaaDoorProg
import Derived.Test.YtalommgkigacpaaDoorPlain2
import Derived.Test.YtalommgkigacpaaDoorWorld
import Derived.WalkKit
import Derived.Outline
import Derived.Lib.Hide
import Derived.WalkSpells
namespace Go.Proofs.YtalommgkigacpaaDoor
open Go.RowKit



set_option maxHeartbeats 400000 in
theorem length_any (c : Int) (w : World) (h0 : 0 ≤ c) (h1 : c ≤ 255) :
    Calls Tryd.prog 45 #[.int .u8 c] w fun e w' => e = .returned (.int .i64 (lenZ c)) ∧ w = w' := by
  go_enter Tryd.func45, Tryd.ntmps45
  go_wp2
  all_goals
    go_ret
    refine ⟨ret_int ?_, rfl⟩
    unfold lenZ
    repeat' split
    all_goals (try omega)


set_option maxHeartbeats 400000 in
theorem continues_any (f i c : Int) (w : World) (_h0 : 0 ≤ f) (_h1 : f ≤ 255) (h2 : 0 ≤ c) (h3 : c ≤ 255) :
    Calls Tryd.prog 46 #[.int .u8 f, .int .i64 i, .int .u8 c] w fun e w' => e = .returned (.bool (contB f i c)) ∧ w = w' := by
  go_enter Tryd.func46, Tryd.ntmps46
  go_wp2
  all_goals
    go_ret
    refine ⟨congrArg (fun b => Ending.returned (.bool b)) ?_, rfl⟩
    simp only [beq_iff_eq, beq_eq_false_iff_ne, ne_eq] at *
    unfold contB
    rw [Bool.eq_iff_iff]
    simp only [Bool.and_eq_true, decide_eq_true_eq]
    repeat' split
    all_goals (try simp)
    all_goals (try omega)
end Go.Proofs.YtalommgkigacpaaDoor

/- Closed facts on the program's types, and the rules by which the walk loads, stores and compares aggregates. -/
import Derived.Test.YtcdcmohccbhchaaGreatDoorProg
import Derived.Test.YtcdcmohccbhchaaGreatDoorData
namespace Go.Proofs.YtcdcmohccbhchaaGreatDoor
open Go.RowKit
@[go_sem] theorem aggId : aggB Tryz.prog 32 = true := by kernel_rfl
@[go_sem] theorem aggAut : aggB Tryz.prog 52 = true := by kernel_rfl
@[go_sem] theorem cellsId : Tryz.prog.cellsOf 32 = 32 := by kernel_rfl
@[go_sem] theorem cellsAut : Tryz.prog.cellsOf 52 = 16 := by kernel_rfl
theorem cellsByte : Tryz.prog.cellsOf 5 = 1 := by kernel_rfl
@[go_sem] theorem eqId (x y : Id) (w : World) : Sem.run Tryz.prog (Op.equalIn 10000 32 (.agg (bC x).toArray) (.agg (bC y).toArray)) w = .ok (x == y) w := run_equalIn_bytes w 9998 Tryz.underlying32 Tryz.underlying5 cellsByte x y
@[go_sem] theorem eqAut (x y : Aut) (w : World) : Sem.run Tryz.prog (Op.equalIn 10000 52 (.agg (bC x).toArray) (.agg (bC y).toArray)) w = .ok (x == y) w := run_equalIn_bytes w 9998 Tryz.underlying52 Tryz.underlying5 cellsByte x y
@[go_sem] theorem guardId : Tryz.prog.eqGuardType Tryz.prog.depth 32 = false := by kernel_rfl
@[go_sem] theorem guardAut : Tryz.prog.eqGuardType Tryz.prog.depth 52 = false := by kernel_rfl
attribute [go_sem ↓] exec_load exec_store
attribute [go_sem] ldR_ite stR_ite rowAt_past hasRow_past freeRow_past rowAt_at hasRow_at freeRow_at rowAt_drew hasRow_drew freeRow_drew rowAt_drewN hasRow_drewN setCells_whole
  cancC_length rwC_length dfnC_length bC_length canc_id canc_author canc_date canc_target canc_whole canc_one rw_id rw_author rw_date rw_groups rw_refs rw_sup rw_whole dfn_id dfn_author dfn_group dfn_version dfn_removed dfn_moderated dfn_mods dfn_text dfn_whole
  oneB_bC rowOf_all canc_date' rw_date' rw_groups' rw_refs' dfn_group' dfn_version' dfn_removed' dfn_moderated' dfn_mods' dfn_text'
end Go.Proofs.YtcdcmohccbhchaaGreatDoor

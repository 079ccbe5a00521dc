/- Closed facts on the types of control commands; commands compared, loaded and stored. -/
import Derived.Test.YtcdcmohccbhchaaGreatDoorName
import Derived.Test.YtcdcmohccbhchaaGreatDoorKPar
namespace Go.Proofs.YtcdcmohccbhchaaGreatDoor
open Go.RowKit

@[go_sem] theorem aggCm : aggB Tryz.prog 37 = true := by kernel_rfl
@[go_sem] theorem aggPub : aggB Tryz.prog 35 = true := by kernel_rfl
@[go_sem] theorem aggA16 : aggB Tryz.prog 24 = true := by kernel_rfl
@[go_sem] theorem aggA32 : aggB Tryz.prog 22 = true := by kernel_rfl
@[go_sem] theorem aggC : aggB Tryz.prog 26 = true := by kernel_rfl
@[go_sem] theorem cellsCm : Tryz.prog.cellsOf 37 = 56 := by kernel_rfl
@[go_sem] theorem cellsPub : Tryz.prog.cellsOf 35 = 17 := by kernel_rfl
@[go_sem] theorem cellsA16 : Tryz.prog.cellsOf 24 = 16 := by kernel_rfl
@[go_sem] theorem cellsA32 : Tryz.prog.cellsOf 22 = 32 := by kernel_rfl
@[go_sem] theorem cellsC : Tryz.prog.cellsOf 26 = 56 := by kernel_rfl
@[go_sem] theorem eqA16 (x y : Aut) (w : World) : Sem.run Tryz.prog (Op.equalIn 10000 24 (.agg (bC x).toArray) (.agg (bC y).toArray)) w = .ok (x == y) w := run_equalIn_bytes w 9998 Tryz.underlying24 Tryz.underlying5 cellsByte x y
@[go_sem] theorem eqA32 (x y : Id) (w : World) : Sem.run Tryz.prog (Op.equalIn 10000 22 (.agg (bC x).toArray) (.agg (bC y).toArray)) w = .ok (x == y) w := run_equalIn_bytes w 9998 Tryz.underlying22 Tryz.underlying5 cellsByte x y
@[go_sem] theorem guardA16 : Tryz.prog.eqGuardType Tryz.prog.depth 24 = false := by kernel_rfl
@[go_sem] theorem guardA32 : Tryz.prog.eqGuardType Tryz.prog.depth 22 = false := by kernel_rfl
@[go_sem] theorem guardPub : Tryz.prog.eqGuardType Tryz.prog.depth 35 = false := by kernel_rfl

/-! ### equality of public keys -/
theorem partRow {P : Program} (w : World) {t : TypeId} (h : aggB P t = true) (cs : List Value) (k : Nat) : (part t cs.toArray k).run P w = .ok (.agg (rowOf cs k (P.cellsOf t)).toArray) w := by
  simp [part, Sem.run_bind, run_isAgg h, run_sizeOf' h, rowOf]
theorem partH (h : Int) (r : Aut) (w : World) : (part 3 (pubC h r).toArray 0).run Tryz.prog w = .ok (.int .i64 h) w := by
  have e : (pubC h r)[0]? = some (.int .i64 h) := rfl
  simp [part, isAgg, run_underlying Tryz.underlying3, e]
theorem partR (h : Int) (r : Aut) (w : World) : (part 24 (pubC h r).toArray 1).run Tryz.prog w = .ok (.agg (bC r).toArray) w := by
  rw [partRow w aggA16, cellsA16, pub_root]
theorem eqStep {P : Program} {w : World} {d : Nat} {xs ys : Array Value} {f : Field} {fs : List Field} {a b : Value} {r s : Bool} (hn : f.name ≠ "_") (ha : (part f.type xs f.offset).run P w = .ok a w) (hb : (part f.type ys f.offset).run P w = .ok b w) (hr : (Op.equalIn d f.type a b).run P w = .ok r w) (hs : (Op.eqFields d xs ys fs).run P w = .ok s w) :
    (Op.eqFields d xs ys (f :: fs)).run P w = .ok (r && s) w := by
  rw [Op.eqFields, if_pos hn]
  simp only [Sem.run_bind, ha, hb, hr, Result.andThen_ok]
  cases r
  · rfl
  · exact hs
theorem eq9A16 (a b : Aut) (w : World) : Sem.run Tryz.prog (Op.equalIn 9999 24 (.agg (bC a).toArray) (.agg (bC b).toArray)) w = .ok (a == b) w := run_equalIn_bytes w 9997 Tryz.underlying24 Tryz.underlying5 cellsByte a b
theorem eq9I (a b : Int) (w : World) : Sem.run Tryz.prog (Op.equalIn 9999 3 (.int .i64 a) (.int .i64 b)) w = .ok (a == b) w := run_equalIn_int w 9998 _ _ _ a b Tryz.underlying3
def pubEq (h : Int) (r : Aut) (h' : Int) (r' : Aut) : Bool := h == h' && r == r'
theorem eqF_pub (h : Int) (r : Aut) (h' : Int) (r' : Aut) (w : World) : (Op.eqFields 9999 (pubC h r).toArray (pubC h' r').toArray (Tryz.prog.fieldsOf 35).toList).run Tryz.prog w = .ok (h == h' && (r == r' && true)) w := by
  simp only [Program.fieldsOf, Tryz.underlying35]
  refine eqStep (by decide) (partH h r w) (partH h' r' w) (eq9I _ _ w) ?_
  exact eqStep (by decide) (partR h r w) (partR h' r' w) (eq9A16 _ _ w) rfl
theorem eqS_pub (h : Int) (r : Aut) (h' : Int) (r' : Aut) (w : World) : Sem.run Tryz.prog (Op.equalIn 10000 35 (.agg (pubC h r).toArray) (.agg (pubC h' r').toArray)) w = (Op.eqFields 9999 (pubC h r).toArray (pubC h' r').toArray (Tryz.prog.fieldsOf 35).toList).run Tryz.prog w := run_equalIn_struct w 9999 35 _ _ (by kernel_rfl) (by kernel_rfl)
@[go_sem ↓ high] theorem eqPub (h : Int) (r : Aut) (h' : Int) (r' : Aut) (w : World) : Sem.run Tryz.prog (Op.equalIn 10000 35 (.agg (pubC h r).toArray) (.agg (pubC h' r').toArray)) w = .ok (pubEq h r h' r') w :=
  (eqS_pub h r h' r' w).trans ((eqF_pub h r h' r' w).trans (by rw [Bool.and_true]; rfl))
attribute [go_sem] cm_kind' cm_group' cm_version' cm_moderated' cm_mods' cm_text' cm_number' cm_height' cmC_length pubC_length cm_target cm_pub cm_root cm_whole pub_root
end Go.Proofs.YtcdcmohccbhchaaGreatDoor

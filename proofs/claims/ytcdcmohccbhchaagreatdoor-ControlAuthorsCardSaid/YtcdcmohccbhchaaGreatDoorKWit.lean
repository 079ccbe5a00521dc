/- A world for the cards' witness: the settled one, the tables holding what they hold. -/
import Derived.Test.YtcdcmohccbhchaaGreatDoorRows
import Derived.Test.YtcdcmohccbhchaaGreatDoorKKnw
import Derived.Shelf.Vars
import Derived.DeepKeys4
import Derived.Maps.RangeWalk
import Derived.Maps.OwnSet
namespace Go.Proofs.YtcdcmohccbhchaaGreatDoor
open Go.RowKit

theorem laidOut : laidOutB Tryz.prog = true := by kernel_rfl
theorem own : ownKnob Tryz.prog.godebug = none := by kernel_rfl
/-- Sixteen pairs of bounds. -/
def accCells : List Value := (([128, 191, 160, 191, 128, 159, 144, 191, 128, 143] : List Int) ++ List.replicate 22 0).map fun n => .int .u8 n
def firstCells : List Value := Go.Pinned.utf8FirstZ.map fun (n : Nat) => Value.int .u8 (n : Int)
def litV : DataW Unit → Value
  | .lit (.int k n) => .int k n
  | _ => undef
def aggV : DataW Unit → List Value
  | .agg l => l.map litV
  | _ => []
def layCells (cs : List Value) : Obj → Obj
  | .cells _ t frozen => .cells cs.toArray t frozen
  | o => o
noncomputable def laidWorld (os : Os) : World :=
  { World.holding Tryz.prog os ⟨#[], #[], []⟩ with heap := ((((((World.holding Tryz.prog os ⟨#[], #[], []⟩).heap.modify 5 (layCells firstCells)).modify 6 (layCells accCells)).modify 3 (layCells (aggV Rows.laid_math_bits_deBruijn32tab))).modify 4 (layCells (aggV Rows.laid_math_bits_deBruijn64tab))).modify 2 (layCells (aggV Rows.laid_internal_strconv_uint64pow10))).modify 0 (layCells (aggV Rows.laid_bulletin_base64_alphabet)) }
theorem env_of {W : World} (h : W.ShapedOpen Tryz.prog) : Env W := cell_of_shapedOpen_int (P := Tryz.prog) (g := 1) (t := 3) (zero := #[.int .i64 0]) h (of_decide_eq_true (by kernel_rfl)) (by kernel_rfl) rfl (by kernel_rfl) (by kernel_rfl) Tryz.underlying3
end Go.Proofs.YtcdcmohccbhchaaGreatDoor

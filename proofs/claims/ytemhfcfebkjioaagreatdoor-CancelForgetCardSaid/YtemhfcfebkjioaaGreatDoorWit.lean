/- A world for the cards' witness: the settled one, the two tables holding what they hold. -/
import Derived.Test.YtemhfcfebkjioaaGreatDoorRows
import Derived.Test.YtemhfcfebkjioaaGreatDoorArgs
import Derived.Shelf.Vars
namespace Go.Proofs.YtemhfcfebkjioaaGreatDoor
open Go.RowKit

theorem own : ownKnob Tryz.prog.godebug = none := by kernel_rfl
/-- Sixteen pairs of bounds. -/
def accCells : List Value := (([128, 191, 160, 191, 128, 159, 144, 191, 128, 143] : List Int) ++ List.replicate 22 0).map fun n => .int .u8 n
def firstCells : List Value := Go.Pinned.utf8FirstZ.map fun (n : Nat) => Value.int .u8 (n : Int)
def layCells (cs : List Value) : Obj → Obj
  | .cells _ t frozen => .cells cs.toArray t frozen
  | o => o
noncomputable def laidWorld (os : Os) : World :=
  { World.holding Tryz.prog os ⟨#[], #[], []⟩ with heap := ((World.holding Tryz.prog os ⟨#[], #[], []⟩).heap.modify 5 (layCells firstCells)).modify 6 (layCells accCells) }
def zC : List Value := List.replicate 32 (.int .u8 0) ++ (List.replicate 16 (.int .u8 0) ++ (.int .i64 0 :: List.replicate 32 (.int .u8 0)))
def zR : List Value := List.replicate 32 (.int .u8 0) ++ (List.replicate 16 (.int .u8 0) ++ (.int .i64 0 :: .slice none 0 0 :: .slice none 0 0 :: List.replicate 32 (.int .u8 0)))
def zBd {H : Type} (n : Nat) : DataW H := .agg (List.replicate n (.lit (.int .u8 0)))
def zCd {H : Type} : List (DataW H) := [zBd 32, zBd 16, .lit (.int .i64 0), zBd 32]
def zRd {H : Type} : List (DataW H) := [zBd 32, zBd 16, .lit (.int .i64 0), .nil, .nil, zBd 32]
theorem env_of {W : World} (h : W.ShapedOpen Tryz.prog) : Env W := cell_of_shapedOpen_int (P := Tryz.prog) (g := 1) (t := 3) (zero := #[.int .i64 0]) h (of_decide_eq_true (by kernel_rfl)) (by kernel_rfl) rfl (by kernel_rfl) (by kernel_rfl) Tryz.underlying3
end Go.Proofs.YtemhfcfebkjioaaGreatDoor

/- A world for the card's witness: the settled one, the tables holding what they hold. -/
import Derived.Test.YteknmbijodbfoaaGreatDoorRows
import Derived.Test.YteknmbijodbfoaaGreatDoorVTab
import Derived.Shelf.Vars
import Derived.DeepKeys4
import Derived.Maps.RangeWalk
import Derived.Maps.OwnSet
namespace Go.Proofs.YteknmbijodbfoaaGreatDoor
open Go.RowKit

theorem laidOut : laidOutB Tryz.prog = true := by kernel_rfl
theorem own : ownKnob Tryz.prog.godebug = none := by kernel_rfl
/-- Sixteen pairs of bounds. -/
def accCells : List Value := (([128, 191, 160, 191, 128, 159, 144, 191, 128, 143] : List Int) ++ List.replicate 22 0).map fun n => .int .u8 n
def firstCells : List Value := Go.Pinned.utf8FirstZ.map fun (n : Nat) => Value.int .u8 (n : Int)
def litV : DataW Unit → Value
  | .lit (.int k n) => .int k n
  | .lit (.string l) => .string ⟨l.toArray⟩
  | _ => undef
def aggV : DataW Unit → List Value
  | .agg l => l.map litV
  | _ => []
def layCells (cs : List Value) : Obj → Obj
  | .cells _ t frozen => .cells cs.toArray t frozen
  | o => o
/-- The tables, each with its block. -/
def tabsV : List (Nat × List Value) := [(9, firstCells), (10, accCells), (7, aggV Rows.laid_math_bits_deBruijn32tab), (8, aggV Rows.laid_math_bits_deBruijn64tab), (6, aggV Rows.laid_internal_strconv_uint64pow10), (4, aggV Rows.laid_bulletin_base64_alphabet), (3, aggV Rows.laid_bulletin_sha256_constants), (2, aggV Rows.laid_bulletin_canonical_formWords), (1, aggV Rows.laid_bulletin_verify_judged), (0, aggV Rows.laid_bulletin_verify_names)]
noncomputable def laidWorld (os : Os) : World :=
  { World.holding Tryz.prog os ⟨#[], #[], []⟩ with heap := tabsV.foldl (fun h p => h.modify p.1 (layCells p.2)) (World.holding Tryz.prog os ⟨#[], #[], []⟩).heap }
end Go.Proofs.YteknmbijodbfoaaGreatDoor

/- small; Own: the reference's command as the program's, its authors copied. A world for the cards' witness: the settled one, the tables holding what they hold. What the rows' lists give: the tables. -/
import Derived.Test.YtcjacgjeiljfgaaGreatDoorBC
import Derived.Test.YtcjacgjeiljfgaaGreatDoorBA
import Derived.Test.YtcjacgjeiljfgaaGreatDoorRows
import Derived.Shelf.Vars
import Derived.DeepKeys4
import Derived.Maps.RangeWalk
import Derived.Maps.OwnSet
import Derived.Test.YtcjacgjeiljfgaaGreatDoorBE
import Derived.Lib.LaidTab
import Derived.LaidSub
namespace Go.Proofs.YtcjacgjeiljfgaaGreatDoor
open Go.RowKit

def smallB (c : Cm) : Bool := decide (c.group.size ≤ 200) && (decide (c.mods.length ≤ 20) && decide (c.text.size ≤ 400))
theorem small_mods {c : Cm} (h : smallB c = true) : c.mods.length ≤ 20 ∧ c.text.size ≤ 400 ∧ c.group.size ≤ 200 := by
  unfold smallB at h
  simp only [Bool.and_eq_true, decide_eq_true_eq] at h
  exact ⟨h.2.1, h.2.2, h.1⟩
/-! ### a slice of one author -/
def bsR (P : Program) (t : TypeId) (n : Nat) (ps : Array (Nat × Value)) (w : World) : Result Next := (do pure (Next.value (← Instr.buildSlice t n ps)) : Sem Next).run P w
@[local go_sem ↓] theorem exec_bsl {P : Program} (ρ : Operand → Value) (d : Option Tmp) (ps : Array (Nat × Operand)) (ty : TypeId) (p : String) (af : Array Edge) (g : Option (Nat × Bool)) (w : World) :
    Sem.run P (execOp ρ ⟨d, .buildSlice 36 1 ps, ty, p, af, g⟩) w = bsR P 36 1 (ps.map fun x => (x.1, ρ x.2)) w := rfl
theorem bs_of {P : Program} {t : TypeId} {n : Nat} {ps : Array (Nat × Value)} {v : Value} {w w' : World} (h : (Instr.buildSlice t n ps).run P w = .ok v w') : bsR P t n ps w = .ok (.value v) w' := by simp [bsR, h]
theorem bSl1F (f : Nat → Value) (w : World) : (Instr.buildSlice 36 1 #[(0, .agg ((List.range 16).map f).toArray)]).run Tryz.prog w = .ok (.slice (some ⟨w.heap.size, 0, none⟩) 1 1) (w.alloc (.cells ((List.range 16).map f).toArray 25)) := by kernel_rfl
@[local go_sem] theorem kSl1 (y : Aut) (w : World) : bsR Tryz.prog 36 1 #[(0, .agg (bC y).toArray)] w = .ok (.value (.slice (some ⟨w.heap.size, 0, none⟩) 1 1)) (w.alloc (.cells (bC y).toArray 25)) := bs_of (by rw [bC_exp]; exact bSl1F _ w)
end Go.Proofs.YtcjacgjeiljfgaaGreatDoor

namespace Go.Proofs.YtcjacgjeiljfgaaGreatDoor
open Go.RowKit

theorem laidOut : laidOutB Tryz.prog = true := by kernel_rfl
theorem own : ownKnob Tryz.prog.godebug = none := by kernel_rfl
/-- Sixteen pairs of bounds. -/
def accCells : List Value := (([128, 191, 160, 191, 128, 159, 144, 191, 128, 143] : List Int) ++ List.replicate 22 0).map fun n => .int .u8 n
def firstCells : List Value := Go.Pinned.utf8FirstZ.map fun (n : Nat) => Value.int .u8 (n : Int)
def litV : DataW Unit → Value
  | .lit (.int k n) => .int k n
  | _ => undef
def aggV : DataW Unit → List Value
  | .agg l => l.map litV
  | _ => []
def layCells (cs : List Value) : Obj → Obj
  | .cells _ t frozen => .cells cs.toArray t frozen
  | o => o
noncomputable def laidWorld (os : Os) : World :=
  { World.holding Tryz.prog os ⟨#[], #[], []⟩ with heap := ((((((World.holding Tryz.prog os ⟨#[], #[], []⟩).heap.modify 5 (layCells firstCells)).modify 6 (layCells accCells)).modify 3 (layCells (aggV Rows.laid_math_bits_deBruijn32tab))).modify 4 (layCells (aggV Rows.laid_math_bits_deBruijn64tab))).modify 2 (layCells (aggV Rows.laid_internal_strconv_uint64pow10))).modify 0 (layCells (aggV Rows.laid_bulletin_base64_alphabet)) }
theorem env_of {W : World} (h : W.ShapedOpen Tryz.prog) : Env W := cell_of_shapedOpen_int (P := Tryz.prog) (g := 1) (t := 3) (zero := #[.int .i64 0]) h (of_decide_eq_true (by kernel_rfl)) (by kernel_rfl) rfl (by kernel_rfl) (by kernel_rfl) Tryz.underlying3
end Go.Proofs.YtcjacgjeiljfgaaGreatDoor

namespace Go.Proofs.YtcjacgjeiljfgaaGreatDoor
open Go.RowKit

theorem laid_pow : (Rows.cancelOfRow.laid.filter fun x => x.1 == "internal/strconv.uint64pow10") = [("internal/strconv.uint64pow10", Lib.tabData .u64 Lib.pow10Tab)] := by kernel_rfl
def alphZ : List Int := b64S.map fun c => (c.toNat : Int)
theorem laid_alph : (Rows.cancelOfRow.laid.filter fun x => x.1 == "bulletin/base64.alphabet") = [("bulletin/base64.alphabet", Lib.tabData .u8 alphZ)] := by kernel_rfl
theorem gAlph : Tryz.prog.globalNamed "bulletin/base64.alphabet" = some 0 := by kernel_rfl
theorem tyPow : (Tryz.prog.globals[2]?).map (·.type) = some 201 := by kernel_rfl
theorem tyAlph : (Tryz.prog.globals[0]?).map (·.type) = some 91 := by kernel_rfl
theorem tabs_of {W : World} (h : laidMetH Tryz.prog Rows.cancelOfRow.laid W) (hsh : W.ShapedOpen Tryz.prog) : Tabs W := by
  have h0 : laidMet Tryz.prog Rows.cancelOfRow.laid W := h
  have h1 := laidMet.filter (fun x => x.1 == "internal/strconv.uint64pow10") h0
  rw [laid_pow] at h1
  have h2 := laidMet.filter (fun x => x.1 == "bulletin/base64.alphabet") h0
  rw [laid_alph] at h2
  refine ⟨env_of hsh, fun i hi => ?_, Lib.tabIs_of_head gPow tyPow Tryz.underlying201 Tryz.underlying166 (by kernel_rfl) (by kernel_rfl) h1⟩
  have ht := Lib.tabIs_of_head (rest := []) gAlph tyAlph Tryz.underlying91 Tryz.underlying5 cellsByte (by kernel_rfl) h2
  have hc := ht.cell gAlph i (by show i < alphZ.length; rw [show alphZ.length = 64 by decide]; exact hi)
  have e : ∀ j : Fin 64, alphZ.getD j.val 0 = ((b64C j.val).toNat : Int) := by decide +kernel
  have ei : alphZ.getD i 0 = ((b64C i).toNat : Int) := e ⟨i, hi⟩
  rw [ei] at hc
  exact hc
end Go.Proofs.YtcjacgjeiljfgaaGreatDoor

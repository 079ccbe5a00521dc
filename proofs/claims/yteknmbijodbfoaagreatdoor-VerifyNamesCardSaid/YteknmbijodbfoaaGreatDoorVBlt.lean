/- Aggregates that verify and keyring are built by, as rules for the walk. -/
import Derived.Test.YteknmbijodbfoaaGreatDoorBZ
namespace Go.Proofs.YteknmbijodbfoaaGreatDoor
open Go.RowKit

def exq (l : List Value) (i : Nat) : Value := l.getD i undef
theorem list_expQ (l : List Value) (n : Nat) (h : l.length = n) : l = (List.range n).map (exq l) := by
  apply List.ext_getElem
  · simp [h]
  · intro i h1 h2
    simp [exq, h1]
def slotC (a : V16) (n : Int) : List Value := bC a ++ [.int .i64 n]
theorem slot_len (a : V16) (n : Int) : (slotC a n).length = 17 := by unfold slotC; rw [List.length_append, bC16_len]; rfl
/-- A key of a chain, all zero. -/
def keyZ : List Value := .int .i64 0 :: (pubC 0 zAut ++ (.int .i64 0 :: bC zId))
/-- A content, all zero. -/
def ctZ : Ctt := ⟨eS, zAut, 0, .slice none 0 0, eS, .slice none 0 0, zId, eS, eS, 0, 0, zAut, 0, eS⟩
/-- What examine returns. -/
def elC (k : Ctt) (y : Vector UInt8 32) (b : Bool) : List Value := cttC k ++ (bC y ++ [.bool b])
/-- A signed content. -/
def snC (k : Ctt) (s : List Value) : List Value := cttC k ++ s

theorem bRing (a b : Option Nat) (w : World) : (Instr.build 73 #[(0, .map a), (1, .map b)]).run Tryz.prog w = .ok (.agg #[.map a, .map b]) w := by kernel_rfl
theorem bSlotF (f : Nat → Value) (n : Int) (w : World) : (Instr.build 196 #[(0, .agg ((List.range 16).map f).toArray), (1, .int .i64 n)]).run Tryz.prog w = .ok (.agg ((List.range 16).map f ++ [Value.int .i64 n]).toArray) w := by kernel_rfl
theorem bKey0 (w : World) : (Instr.build 127 #[]).run Tryz.prog w = .ok (.agg keyZ.toArray) w := by kernel_rfl
theorem bEl0 (w : World) : (Instr.build 67 #[]).run Tryz.prog w = .ok (.agg (elC ctZ zId false).toArray) w := by kernel_rfl
theorem bElF (f h : Nat → Value) (b : Bool) (w : World) : (Instr.build 67 #[(0, .agg ((List.range 75).map f).toArray), (1, .agg ((List.range 32).map h).toArray), (2, .bool b)]).run Tryz.prog w = .ok (.agg ((List.range 75).map f ++ ((List.range 32).map h ++ [Value.bool b])).toArray) w := by kernel_rfl
theorem bSnF (f h : Nat → Value) (w : World) : (Instr.build 50 #[(0, .agg ((List.range 75).map f).toArray), (1, .agg ((List.range 562).map h).toArray)]).run Tryz.prog w = .ok (.agg ((List.range 75).map f ++ (List.range 562).map h).toArray) w := by kernel_rfl
theorem bSec1 (w : World) : (Instr.build 28 #[(1, .int .i64 1)]).run Tryz.prog w = .ok (.agg (secC (Vector.replicate 32 0) 1).toArray) w := by kernel_rfl
theorem bCtF (f h : Nat → Value) (a : Option Addr) (n c : Nat) (s : ByteArray) (w : World) : (Instr.build 41 #[(1, .agg ((List.range 16).map f).toArray), (3, .slice a n c), (4, .string s), (10, .agg ((List.range 17).map h).toArray)]).run Tryz.prog w =
    .ok (.agg ([Value.string eS] ++ ((List.range 16).map f ++ ([Value.int .i64 0, .slice a n c, .string s, .slice none 0 0] ++ (bC zId ++ ([Value.string eS, .string eS, .int .i64 0] ++ ((List.range 17).map h ++ [Value.int .i64 0, .string eS])))))).toArray) w := by kernel_rfl
@[go_sem] theorem kRing (a b : Option Nat) (w : World) : bdR Tryz.prog 73 #[(0, .map a), (1, .map b)] w = .ok (.value (.agg #[.map a, .map b])) w := bd_of (bRing a b w)
@[go_sem] theorem kSlot (a : V16) (n : Int) (w : World) : bdR Tryz.prog 196 #[(0, .agg (bC a).toArray), (1, .int .i64 n)] w = .ok (.value (.agg (slotC a n).toArray)) w := bd_of (by
  unfold slotC; rw [list_expQ (bC a) 16 (bC16_len a)]; exact bSlotF _ n w)
@[go_sem] theorem kKey0 (w : World) : bdR Tryz.prog 127 #[] w = .ok (.value (.agg keyZ.toArray)) w := bd_of (bKey0 w)
@[go_sem] theorem kEl0 (w : World) : bdR Tryz.prog 67 #[] w = .ok (.value (.agg (elC ctZ zId false).toArray)) w := bd_of (bEl0 w)
@[go_sem] theorem kEl (k : Ctt) (y : Vector UInt8 32) (b : Bool) (w : World) : bdR Tryz.prog 67 #[(0, .agg (cttC k).toArray), (1, .agg (bC y).toArray), (2, .bool b)] w = .ok (.value (.agg (elC k y b).toArray)) w := bd_of (by
  unfold elC; rw [list_expQ (cttC k) 75 (cttC_length k), list_expQ (bC y) 32 (bC32_len y)]; exact bElF _ _ b w)
@[go_sem] theorem kSn (k : Ctt) (leaf : Int) (e : Nat → V16) (p : Value) (w : World) : bdR Tryz.prog 50 #[(0, .agg (cttC k).toArray), (1, .agg (sgC leaf e p).toArray)] w = .ok (.value (.agg (snC k (sgC leaf e p)).toArray)) w := bd_of (by
  unfold snC; rw [list_expQ (cttC k) 75 (cttC_length k), list_expQ (sgC leaf e p) 562 (sgC_len leaf e p)]; exact bSnF _ _ w)
@[go_sem] theorem kSec1 (w : World) : bdR Tryz.prog 28 #[(1, .int .i64 1)] w = .ok (.value (.agg (secC seed0 1).toArray)) w := bd_of (bSec1 w)
theorem kCt (a r : V16) (s : ByteArray) (g c : Nat) (w : World) : bdR Tryz.prog 41 #[(1, .agg (bC a).toArray), (3, .slice (some ⟨g, 0, none⟩) 1 c), (4, .string s), (10, .agg (pubC 1 r).toArray)] w = .ok (.value (.agg (cttC (ctK a r s g c)).toArray)) w := bd_of (by
  have e : cttC (ctK a r s g c) = [Value.string eS] ++ (bC a ++ ([Value.int .i64 0, .slice (some ⟨g, 0, none⟩) 1 c, .string s, .slice none 0 0] ++ (bC zId ++ ([Value.string eS, .string eS, .int .i64 0] ++ (pubC 1 r ++ [Value.int .i64 0, .string eS]))))) := rfl
  rw [e, list_expQ (bC a) 16 (bC16_len a), list_expQ (pubC 1 r) 17 (pubC_length 1 r)]; exact bCtF _ _ _ _ _ s w)
@[go_sem] theorem aggSn : aggB Tryz.prog 50 = true := by kernel_rfl
@[go_sem] theorem aggEl : aggB Tryz.prog 67 = true := by kernel_rfl
@[go_sem] theorem aggKy : aggB Tryz.prog 127 = true := by kernel_rfl
@[go_sem] theorem aggSlt : aggB Tryz.prog 196 = true := by kernel_rfl
@[go_sem] theorem aggRo : aggB Tryz.prog 198 = true := by kernel_rfl
@[go_sem] theorem aggRg : aggB Tryz.prog 73 = true := by kernel_rfl
@[go_sem] theorem cellsSn : Tryz.prog.cellsOf 50 = 637 := by kernel_rfl
@[go_sem] theorem cellsEl : Tryz.prog.cellsOf 67 = 108 := by kernel_rfl
@[go_sem] theorem cellsKy : Tryz.prog.cellsOf 127 = 51 := by kernel_rfl
@[go_sem] theorem cellsSlt : Tryz.prog.cellsOf 196 = 17 := by kernel_rfl
@[go_sem] theorem cellsRg : Tryz.prog.cellsOf 73 = 2 := by kernel_rfl
@[go_sem ↓ high] theorem zeroPubR (w : World) : Sem.run Tryz.prog (zeroValue 31) w = .ok (.agg (pubC 0 zAut).toArray) w := by kernel_rfl
@[go_sem ↓ high] theorem zeroKeyR (w : World) : Sem.run Tryz.prog (zeroValue 127) w = .ok (.agg keyZ.toArray) w := by kernel_rfl
@[go_sem ↓ high] theorem zeroElR (w : World) : Sem.run Tryz.prog (zeroValue 67) w = .ok (.agg (elC ctZ zId false).toArray) w := by kernel_rfl
@[go_sem ↓ high] theorem zeroCtR (w : World) : Sem.run Tryz.prog (zeroValue 41) w = .ok (.agg (cttC ctZ).toArray) w := by kernel_rfl
@[go_sem ↓ high] theorem zeroSecR (w : World) : Sem.run Tryz.prog (zeroValue 28) w = .ok (.agg (secC (Vector.replicate 32 0) 0).toArray) w := by kernel_rfl
theorem key_len : keyZ.length = 51 := by decide +kernel
theorem el_len (k : Ctt) (y : Vector UInt8 32) (b : Bool) : (elC k y b).length = 108 := by unfold elC; rw [List.length_append, List.length_append, cttC_length, bC32_len]; rfl
theorem sn_len (k : Ctt) (leaf : Int) (e : Nat → V16) (p : Value) : (snC k (sgC leaf e p)).length = 637 := by unfold snC; rw [List.length_append, cttC_length, sgC_len]
end Go.Proofs.YteknmbijodbfoaaGreatDoor

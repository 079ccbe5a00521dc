/- Aggregates that control commands are built by, as rules for the walk; fields stored into a command that lies in a new block. -/
import Derived.Test.YtcdcmohccbhchaaGreatDoorKFacts
namespace Go.Proofs.YtcdcmohccbhchaaGreatDoor
open Go.RowKit

/-- A build, as one word. -/
def bdR (P : Program) (t : TypeId) (ps : Array (Nat × Value)) (w : World) : Result Next := (do pure (Next.value (← Instr.build t ps)) : Sem Next).run P w
@[go_sem ↓] theorem exec_build {P : Program} {t : TypeId} (ρ : Operand → Value) (d : Option Tmp) (ps : Array (Nat × Operand)) (ty : TypeId) (p : String) (af : Array Edge) (g : Option (Nat × Bool)) (w : World) :
    Sem.run P (execOp ρ ⟨d, .build t ps, ty, p, af, g⟩) w = bdR P t (ps.map fun x => (x.1, ρ x.2)) w := rfl
theorem bd_of {P : Program} {t : TypeId} {ps : Array (Nat × Value)} {v : Value} {w w' : World} (h : (Instr.build t ps).run P w = .ok v w') : bdR P t ps w = .ok (.value v) w' := by simp [bdR, h]
/-- Bytes, one by one. -/
def byF {n : Nat} (x : Vector UInt8 n) (k : Nat) : Value := .int .u8 ((x.toList.getD k 0).toNat : Int)
theorem bC_exp {n : Nat} (x : Vector UInt8 n) : bC x = (List.range n).map (byF x) := by
  apply List.ext_getElem?
  intro i
  rw [List.getElem?_map]
  by_cases hi : i < n
  · rw [List.getElem?_range hi, List.getElem?_eq_getElem (by rw [bC_length]; exact hi)]
    simp [bC, byF, hi]
  · rw [List.getElem?_eq_none (by rw [bC_length]; omega), List.getElem?_eq_none (by simp; omega)]; rfl
def nilV : Value := .slice none 0 0
/-- A command's cells, its target's bytes one by one. -/
def rawC (k : Int) (f : Nat → Value) (g : ByteArray) (v : Int) (m : Bool) (s : Value) (t : ByteArray) (nu : Int) (pub : List Value) : List Value :=
  [Value.int .i64 k] ++ ((List.range 32).map f ++ ([Value.string g, .int .i64 v, .bool m, s, .string t, .int .i64 nu] ++ pub))

theorem b0Id (w : World) : (Instr.build 32 #[]).run Tryz.prog w = .ok (.agg (bC zId).toArray) w := by kernel_rfl
theorem b0Aut (w : World) : (Instr.build 52 #[]).run Tryz.prog w = .ok (.agg (bC zAut).toArray) w := by kernel_rfl
theorem b0A16 (w : World) : (Instr.build 24 #[]).run Tryz.prog w = .ok (.agg (bC zAut).toArray) w := by kernel_rfl
theorem b0A32 (w : World) : (Instr.build 22 #[]).run Tryz.prog w = .ok (.agg (bC zId).toArray) w := by kernel_rfl
theorem b0Rid (w : World) : (Instr.build 67 #[]).run Tryz.prog w = .ok (.agg (bC zId).toArray) w := by kernel_rfl
theorem b0Pub (w : World) : (Instr.build 35 #[]).run Tryz.prog w = .ok (.agg (pubC 0 zAut).toArray) w := by kernel_rfl
theorem b0Cm (w : World) : (Instr.build 37 #[]).run Tryz.prog w = .ok (.agg (cmC (cm0 0) nilV).toArray) w := by kernel_rfl
theorem b1Cm (k : Int) (w : World) : (Instr.build 37 #[(0, .int .i64 k)]).run Tryz.prog w = .ok (.agg (cmC (cm0 k) nilV).toArray) w := by kernel_rfl
theorem b0C (w : World) : (Instr.build 26 #[]).run Tryz.prog w = .ok (.agg (cmC (cm0 0) nilV).toArray) w := by kernel_rfl
theorem b1C (k : Int) (w : World) : (Instr.build 26 #[(0, .int .i64 k)]).run Tryz.prog w = .ok (.agg (cmC (cm0 k) nilV).toArray) w := by kernel_rfl
theorem bPubF (h : Int) (f : Nat → Value) (w : World) : (Instr.build 35 #[(0, .int .i64 h), (1, .agg ((List.range 16).map f).toArray)]).run Tryz.prog w = .ok (.agg (Value.int .i64 h :: (List.range 16).map f).toArray) w := by kernel_rfl
theorem bCmTF (k : Int) (f : Nat → Value) (w : World) : (Instr.build 37 #[(0, .int .i64 k), (1, .agg ((List.range 32).map f).toArray)]).run Tryz.prog w = .ok (.agg (rawC k f ⟨#[]⟩ 0 false nilV ⟨#[]⟩ 0 (pubC 0 zAut)).toArray) w := by kernel_rfl
theorem bCmF (k : Int) (f : Nat → Value) (g : ByteArray) (v : Int) (m : Bool) (a : Option Addr) (n c : Nat) (t : ByteArray) (nu ht : Int) (h : Nat → Value) (w : World) :
    (Instr.build 37 #[(0, .int .i64 k), (1, .agg ((List.range 32).map f).toArray), (2, .string g), (3, .int .i64 v), (4, .bool m), (5, .slice a n c), (6, .string t), (7, .int .i64 nu), (8, .agg (Value.int .i64 ht :: (List.range 16).map h).toArray)]).run Tryz.prog w =
      .ok (.agg (rawC k f g v m (.slice a n c) t nu (.int .i64 ht :: (List.range 16).map h)).toArray) w := by kernel_rfl
theorem bCF (k : Int) (f : Nat → Value) (g : ByteArray) (v : Int) (m : Bool) (a : Option Addr) (n c : Nat) (t : ByteArray) (nu ht : Int) (h : Nat → Value) (w : World) :
    (Instr.build 26 #[(0, .int .i64 k), (1, .agg ((List.range 32).map f).toArray), (2, .string g), (3, .int .i64 v), (4, .bool m), (5, .slice a n c), (6, .string t), (7, .int .i64 nu), (8, .int .i64 ht), (9, .agg ((List.range 16).map h).toArray)]).run Tryz.prog w =
      .ok (.agg (rawC k f g v m (.slice a n c) t nu (.int .i64 ht :: (List.range 16).map h)).toArray) w := by kernel_rfl
theorem bWdsF (s : ByteArray) (n : Int) (w : World) : (Instr.build 86 #[(0, .string s), (2, .int .i64 n)]).run Tryz.prog w = .ok (.agg #[.string s, .int .i64 0, .int .i64 n, .int .i64 0, .int .i64 0]) w := by kernel_rfl
theorem bKnownF (g t : ByteArray) (w : World) : (Instr.build 37 #[(0, .int .i64 3), (2, .string g), (3, .int .i64 2), (6, .string t)]).run Tryz.prog w = .ok (.agg (cmC ⟨3, zId, g, 2, false, [], t, 0, 0, zAut⟩ nilV).toArray) w := by kernel_rfl

@[go_sem] theorem k0Id (w : World) : bdR Tryz.prog 32 #[] w = .ok (.value (.agg (bC zId).toArray)) w := bd_of (b0Id w)
@[go_sem] theorem k0Aut (w : World) : bdR Tryz.prog 52 #[] w = .ok (.value (.agg (bC zAut).toArray)) w := bd_of (b0Aut w)
@[go_sem] theorem k0A16 (w : World) : bdR Tryz.prog 24 #[] w = .ok (.value (.agg (bC zAut).toArray)) w := bd_of (b0A16 w)
@[go_sem] theorem k0A32 (w : World) : bdR Tryz.prog 22 #[] w = .ok (.value (.agg (bC zId).toArray)) w := bd_of (b0A32 w)
@[go_sem] theorem k0Rid (w : World) : bdR Tryz.prog 67 #[] w = .ok (.value (.agg (bC zId).toArray)) w := bd_of (b0Rid w)
@[go_sem] theorem k0Pub (w : World) : bdR Tryz.prog 35 #[] w = .ok (.value (.agg (pubC 0 zAut).toArray)) w := bd_of (b0Pub w)
@[go_sem] theorem k0Cm (w : World) : bdR Tryz.prog 37 #[] w = .ok (.value (.agg (cmC (cm0 0) nilV).toArray)) w := bd_of (b0Cm w)
@[go_sem] theorem k1Cm (k : Int) (w : World) : bdR Tryz.prog 37 #[(0, .int .i64 k)] w = .ok (.value (.agg (cmC (cm0 k) nilV).toArray)) w := bd_of (b1Cm k w)
@[go_sem] theorem k0C (w : World) : bdR Tryz.prog 26 #[] w = .ok (.value (.agg (cmC (cm0 0) nilV).toArray)) w := bd_of (b0C w)
@[go_sem] theorem k1C (k : Int) (w : World) : bdR Tryz.prog 26 #[(0, .int .i64 k)] w = .ok (.value (.agg (cmC (cm0 k) nilV).toArray)) w := bd_of (b1C k w)
@[go_sem] theorem kPub (h : Int) (r : Aut) (w : World) : bdR Tryz.prog 35 #[(0, .int .i64 h), (1, .agg (bC r).toArray)] w = .ok (.value (.agg (pubC h r).toArray)) w := bd_of (by rw [pubC, bC_exp]; exact bPubF h _ w)
@[go_sem] theorem kCmT (k : Int) (i : Id) (w : World) : bdR Tryz.prog 37 #[(0, .int .i64 k), (1, .agg (bC i).toArray)] w = .ok (.value (.agg (cmC { cm0 k with target := i } nilV).toArray)) w := bd_of (by
  have e : cmC { cm0 k with target := i } nilV = rawC k (byF i) ⟨#[]⟩ 0 false nilV ⟨#[]⟩ 0 (pubC 0 zAut) := by unfold rawC; rw [← bC_exp]; rfl
  rw [e, bC_exp]; exact bCmTF k _ w)
@[go_sem] theorem kCm (k : Int) (i : Id) (g : ByteArray) (v : Int) (m : Bool) (a : Option Addr) (n c : Nat) (t : ByteArray) (nu ht : Int) (r : Aut) (w : World) :
    bdR Tryz.prog 37 #[(0, .int .i64 k), (1, .agg (bC i).toArray), (2, .string g), (3, .int .i64 v), (4, .bool m), (5, .slice a n c), (6, .string t), (7, .int .i64 nu), (8, .agg (pubC ht r).toArray)] w = .ok (.value (.agg (cmC ⟨k, i, g, v, m, [], t, nu, ht, r⟩ (.slice a n c)).toArray)) w := bd_of (by
  have e : cmC ⟨k, i, g, v, m, [], t, nu, ht, r⟩ (.slice a n c) = rawC k (byF i) g v m (.slice a n c) t nu (.int .i64 ht :: (List.range 16).map (byF r)) := by unfold rawC; rw [← bC_exp, ← bC_exp]; rfl
  rw [e, pubC, bC_exp, bC_exp]; exact bCmF k _ g v m a n c t nu ht _ w)
@[go_sem] theorem kC (k : Int) (i : Id) (g : ByteArray) (v : Int) (m : Bool) (a : Option Addr) (n c : Nat) (t : ByteArray) (nu ht : Int) (r : Aut) (w : World) :
    bdR Tryz.prog 26 #[(0, .int .i64 k), (1, .agg (bC i).toArray), (2, .string g), (3, .int .i64 v), (4, .bool m), (5, .slice a n c), (6, .string t), (7, .int .i64 nu), (8, .int .i64 ht), (9, .agg (bC r).toArray)] w = .ok (.value (.agg (cmC ⟨k, i, g, v, m, [], t, nu, ht, r⟩ (.slice a n c)).toArray)) w := bd_of (by
  have e : cmC ⟨k, i, g, v, m, [], t, nu, ht, r⟩ (.slice a n c) = rawC k (byF i) g v m (.slice a n c) t nu (.int .i64 ht :: (List.range 16).map (byF r)) := by unfold rawC; rw [← bC_exp, ← bC_exp]; rfl
  rw [e, bC_exp, bC_exp]; exact bCF k _ g v m a n c t nu ht _ w)
@[go_sem] theorem kWds (s : ByteArray) (n : Int) (w : World) : bdR Tryz.prog 86 #[(0, .string s), (2, .int .i64 n)] w = .ok (.value (.agg #[.string s, .int .i64 0, .int .i64 n, .int .i64 0, .int .i64 0])) w := bd_of (bWdsF s n w)
@[go_sem] theorem kKnown (g t : ByteArray) (w : World) : bdR Tryz.prog 37 #[(0, .int .i64 3), (2, .string g), (3, .int .i64 2), (6, .string t)] w = .ok (.value (.agg (cmC ⟨3, zId, g, 2, false, [], t, 0, 0, zAut⟩ nilV).toArray)) w := bd_of (bKnownF g t w)

/-- A region that draws, all of it quiet in the class of worlds with blocks. -/
theorem wp_region_gr {P : Program} {id : Nat} {Q : Exit → Act → World → Prop} {a : Act} {w : World} {l : List Oper} (hm : P.follows .mixedOrders = true) (hB : Region.lexB .any l.toArray = true)
    (h : wpQuiet P l.toArray (fun u => ∃ p : GD, u = gw w p) (fun a' => ∀ w', (∃ p : GD, w' = gw w p) → Q .normal a' w') l a) : (Code.region id l.toArray true).wp P Q a w :=
  wp_region_quiet (C := fun u => ∃ p : GD, u = gw w p) hm hB (cg_drew w) (by simpa using h)
end Go.Proofs.YtcdcmohccbhchaaGreatDoor

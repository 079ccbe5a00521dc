/- The comparing functions of the library at ints, bytes, strings and slices of bytes; worlds that a comparing function leaves. -/
import Derived.Test.YtcdcmohccbhchaaGreatDoorFacts
import Derived.Outline
import Derived.WalkSpells
import Derived.WalkLawsBesides
import Derived.Deep.QuietTactic
import Derived.BigQuiet
import Derived.Lib.Bytealg
import Derived.Sort.Grow
namespace Go.Proofs.YtcdcmohccbhchaaGreatDoor
open Go.RowKit

/-- w' is w with new blocks and more draws. -/
def Lay (w w' : World) : Prop := Gr w w' ∧ w.drawn ≤ w'.drawn
theorem Lay.refl (w : World) : Lay w w := ⟨Gr.refl w, Nat.le_refl _⟩
theorem Lay.trans {a b c : World} (h : Lay a b) (k : Lay b c) : Lay a c := ⟨h.1.trans k.1, Nat.le_trans h.2 k.2⟩
theorem Lay.alloc {a w : World} (h : Lay a w) (o : Obj) : Lay a (w.alloc o) := ⟨h.1.alloc o, h.2⟩
theorem Lay.drew {a w : World} (h : Lay a w) : Lay a w.drew := ⟨h.1.drew, Nat.le_succ_of_le h.2⟩
theorem Lay.drewN {a w : World} (h : Lay a w) (n : Nat) : Lay a (w.drewN n) := ⟨h.1.drewN n, Nat.le_trans h.2 (Nat.le_add_right _ _)⟩
theorem Lay.grow {w w' : World} (h : Lay w w') : ∃ q os, w' = Sort.grow (w.drewN q) os := by
  obtain ⟨g, hd⟩ := h
  have g1 : w'.os = w.os := Below.os g
  have g2 : w'.tape = w.tape := Below.tape g
  have g3 : w'.output = w.output := Below.output g
  refine ⟨w'.drawn - w.drawn, w'.heap.extract w.heap.size w'.heap.size, ?_⟩
  have hh : w'.heap = w.heap ++ w'.heap.extract w.heap.size w'.heap.size := by
    apply Array.ext_getElem?
    intro i
    have hs := g.size
    by_cases hi : i < w.heap.size
    · rw [g.block hi, Array.getElem?_append, if_pos hi]
    · rw [Array.getElem?_append, if_neg hi, Array.getElem?_extract]
      by_cases h2 : i < w'.heap.size
      · rw [if_pos (by omega), show w.heap.size + (i - w.heap.size) = i by omega]
      · rw [if_neg (by omega), Array.getElem?_eq_none (by omega)]
  cases w'; cases w
  simp only [Sort.grow, World.drewN, World.mk.injEq]
  simp only at hh hd g1 g2 g3
  exact ⟨hh, g2, by omega, g1, g3⟩
theorem Lay.of_grow (w : World) (q : Nat) (os : Array Obj) : Lay w (Sort.grow (w.drewN q) os) :=
  ⟨⟨rfl, rfl, rfl, by simp, fun k hk => by rw [Sort.heap_grow_old _ _ (by exact hk)]; rfl⟩, Nat.le_add_right _ _⟩

/-- A callee that leaves the world alone, met in a region whose order is open. -/
theorem still_call {P : Program} {f : FuncId} {args : Array Value} {w : World} {n : Nat} {v : Value}
    (h : Calls P f args (w.drewN n) fun e w' => e = .returned v ∧ w.drewN n = w') : Calls P f args (w.drewN n) fun e w'' => e = .returned v ∧ ∃ m, w'' = w.drewN m :=
  h.mono fun _ _ hh => ⟨hh.1, n, hh.2.symm⟩

def cmpI (x y : Int) : Int := if x < y then -1 else if y < x then 1 else 0
def cmpS (x y : ByteArray) : Int := if Op.bytesLess x.toList y.toList = true then -1 else if (x.toList == y.toList) = true then 0 else 1
def orI (x y : Int) : Int := if x = 0 then y else x
def cmpB {n : Nat} (x y : Vector UInt8 n) : Int := Lib.compareBytes x.toList y.toList

/-! ### bytes -/
/-- The bytes x lie from a on. -/
def BytesAt (w : World) (b k : Nat) (x : List UInt8) : Prop := ∀ j (h : j < x.length), w.cell? ⟨b, k + j, none⟩ = some (.int .u8 (x[j].toNat : Int))
theorem cmpL_step (x y : List UInt8) (k : Nat) (hx : k < x.length) (hy : k < y.length) : Lib.compareBytes (x.drop k) (y.drop k) = orI (cmpI (x[k].toNat : Int) (y[k].toNat : Int)) (Lib.compareBytes (x.drop (k + 1)) (y.drop (k + 1))) := by
  rw [List.drop_eq_getElem_cons hx, List.drop_eq_getElem_cons hy]
  rw [Lib.compareBytes]
  generalize Lib.compareBytes (List.drop (k + 1) x) (List.drop (k + 1) y) = r
  rcases Nat.lt_trichotomy x[k].toNat y[k].toNat with c | c | c
  · have e : cmpI (x[k].toNat : Int) (y[k].toNat : Int) = -1 := by unfold cmpI; rw [if_pos (by omega)]
    rw [e, if_pos (UInt8.lt_iff_toNat_lt.2 c)]; rfl
  · have e : cmpI (x[k].toNat : Int) (y[k].toNat : Int) = 0 := by unfold cmpI; rw [if_neg (by omega), if_neg (by omega)]
    rw [e, if_neg (fun h => by have := UInt8.lt_iff_toNat_lt.1 h; omega), if_neg (fun h => by have := UInt8.lt_iff_toNat_lt.1 h; omega)]; rfl
  · have e : cmpI (x[k].toNat : Int) (y[k].toNat : Int) = 1 := by unfold cmpI; rw [if_neg (by omega), if_pos (by omega)]
    rw [e, if_neg (fun h => by have := UInt8.lt_iff_toNat_lt.1 h; omega), if_pos (UInt8.lt_iff_toNat_lt.2 c)]; rfl
theorem cmpI_ne {x y : UInt8} (h : x ≠ y) : cmpI (x.toNat : Int) (y.toNat : Int) ≠ 0 := by
  unfold cmpI
  have : x.toNat ≠ y.toNat := fun e => h (UInt8.toNat_inj.1 e)
  repeat' split
  all_goals omega
theorem cmpI_self (x : Int) : cmpI x x = 0 := by unfold cmpI; simp

theorem bytesAt_new (w : World) (n t b : Nat) (x : Vector UInt8 n) (hb : b = w.heap.size) : BytesAt (w.alloc (.cells (bC x).toArray t)) b 0 x.toList := by
  intro j hj
  rw [World.cell?_alloc_at _ _ _ _ hb]
  simp only [bC, Nat.zero_add]
  simp at hj ⊢
  simp [hj]
theorem BytesAt.gr {w w' : World} {b k : Nat} {x : List UInt8} (h : BytesAt w b k x) (hg : Gr w w') (hb : b < w.heap.size) : BytesAt w' b k x := fun j hj => (hg.cell (p := ⟨b, k + j, none⟩) hb).trans (h j hj)
end Go.Proofs.YtcdcmohccbhchaaGreatDoor

/- What the example's parts come to, in plain words. -/
import Derived.Test.YtemhfcfebkjioaaGreatDoorBuild
namespace Go.Proofs.YtemhfcfebkjioaaGreatDoor
open Go.RowKit

def dfnK (v : Value) : Dfn := ⟨idK 8, autK 9, ⟨#[103, 46, 104]⟩, 1, false, true, v, ⟨#[]⟩⟩
def everV (L : List Vis) (g : ByteArray) (x : Aut) : Bool := L.any fun e => (e.2.1.toList == g.toList) && hasA e.2.2 x
theorem everB_vis (ents : List (Dfn × List Aut)) (g : ByteArray) (x : Aut) : everB ents g x = everV (ents.map vis) g x := by
  unfold everB everV; rw [List.any_map]; rfl
theorem nameK : nameErr ⟨#[103, 46, 104]⟩ = 0 := by decide +kernel
theorem matchK : matchB ⟨#[103, 46, 104]⟩ = true := by decide +kernel
theorem accK (v : Value) : accOk (dfnK v) [autK 2] = true := by
  unfold accOk isAuthB
  have h1 : dfnErr (dfnK v) [autK 2] = 0 := by
    unfold dfnErr
    rw [show (dfnK v).group = ⟨#[103, 46, 104]⟩ from rfl, nameK]
    rw [if_neg (by decide)]
    rw [show verB (dfnK v) = false from rfl, show remB (dfnK v) [autK 2] = false from rfl]
    rw [show dupTo [autK 2] [autK 2].length = false from by decide +kernel]
    rfl
  rw [h1, show (dfnK v).group = ⟨#[103, 46, 104]⟩ from rfl, matchK]
  show ((0 : Int) == 0 && (aut9 == autK 9 && true)) = true
  decide +kernel
theorem madeK (v : Value) : madeV [(dfnK v, [autK 2])] 12 = [(idK 8, ⟨#[103, 46, 104]⟩, [autK 2])] := by
  show addV [] (dfnK v) [autK 2] = _
  unfold addV; rw [accK]; rfl

def ghS : ByteArray := ⟨#[103, 46, 104]⟩
def rwK (v : Value) : Rw := ⟨idK 7, autK 1, 100, v, .slice none 0 0, zeroId⟩
def yK1 : Canc := ⟨idK 1, autK 1, 120, idK 7⟩
def yK2 : Canc := ⟨idK 2, autK 2, 110, idK 7⟩
def yK3 : Canc := ⟨idK 3, autK 3, 105, idK 7⟩
def yK4 : Canc := ⟨idK 4, autK 1, 99, idK 7⟩
def countsV (y : Canc) (x : Rw) (gs : List ByteArray) (L : List Vis) : Bool := (y.target == x.id) && decide (x.date ≤ y.date) && (y.author == x.author || gs.any fun g => everV L g y.author)
theorem countsB_vis (y : Canc) (x : Rw) (gs : List ByteArray) (ents : List (Dfn × List Aut)) : countsB y x gs ents = countsV y x gs (ents.map vis) := by
  unfold countsB countsV; simp only [everB_vis]
section
variable (v : Value) {ents : List (Dfn × List Aut)} (hv : ents.map vis = [(idK 8, ⟨#[103, 46, 104]⟩, [autK 2])])
include hv
theorem cK1 : countsB yK1 (rwK v) [ghS] ents = true := by rw [countsB_vis, hv]; show countsV yK1 (rwK (.slice none 0 0)) [ghS] _ = true; decide +kernel
theorem cK2 : countsB yK2 (rwK v) [ghS] ents = true := by rw [countsB_vis, hv]; show countsV yK2 (rwK (.slice none 0 0)) [ghS] _ = true; decide +kernel
theorem cK3 : countsB yK3 (rwK v) [ghS] ents = false := by rw [countsB_vis, hv]; show countsV yK3 (rwK (.slice none 0 0)) [ghS] _ = false; decide +kernel
theorem cK4 : countsB yK4 (rwK v) [ghS] ents = false := by rw [countsB_vis, hv]; show countsV yK4 (rwK (.slice none 0 0)) [ghS] _ = false; decide +kernel
theorem byK : byR (rwK v) [ghS] ents [yK1, yK2, yK3, yK4] = some (minFrom yK1 [yK2]) := by
  unfold byR filt
  rw [List.filter_cons, List.filter_cons, List.filter_cons, List.filter_cons, cK1 v hv, cK2 v hv, cK3 v hv, cK4 v hv]
  rfl
end
theorem minK : (minFrom yK1 [yK2]).id = idK 2 := by decide +kernel
theorem slAt_flat {w : World} {b size : Nat} {rows : List (List Value)} {t : TypeId} (h : w.heap[b]? = some (.cells rows.flatten.toArray t (0, 0))) (hr : ∀ r ∈ rows, r.length = size) : SlAt w (.slice (some ⟨b, 0, none⟩) rows.length rows.length) size rows := by
  refine ⟨_, _, rfl, Nat.le_refl _, fun j hj => ⟨b, 0, rfl, (Array.getElem?_eq_some_iff.1 h).1, ?_, ?_⟩⟩
  · rw [Nat.zero_add]; exact hasRow_block h _ _ (by rw [flat_len hr, ← Nat.succ_mul]; exact Nat.mul_le_mul_right _ (by omega))
  · rw [Nat.zero_add, rowAt_block h _ _ (by rw [flat_len hr, ← Nat.succ_mul]; exact Nat.mul_le_mul_right _ (by omega))]; exact flat_get hr j hj
end Go.Proofs.YtemhfcfebkjioaaGreatDoor

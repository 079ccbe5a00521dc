/- How arguments of the types []byte, [][]byte and []bool lie, read off their readings. -/
import Derived.Test.YtalommgkigacpaaDoorRefW
import Derived.ProofKit
import Derived.OpenShut
import Derived.Deep.Slices
import Derived.Deep.Grids
namespace Go.Proofs.YtalommgkigacpaaDoor
open Go.ChangeShapes Go.WideShapes Go.ChangeAt Go.RowKit
section
variable {H : Type} {enc : TypeId × Value → H} {W : World} {base : Nat} {held : Bool}

theorem bytes_open {fuel : Nat} {a : Option Addr} {len cap : Nat} {x : DataW H × List MemPlace} (hf : DataW.trod enc Tryd.prog W base (fun _ => true) held fuel 38 [.slice a len cap] = some x) :
    len ≤ cap ∧ cap ≤ 9223372036854775807 ∧ BytesIn W a len := by
  rcases open_ints Tryd.underlying38 Tryd.underlying5 (by kernel_rfl) hf with ⟨hcs, _⟩ | ⟨x, l, c, zs, hcs, _, hl, hm, hz, _, hcell, hwz⟩
  · simp at hcs
    obtain ⟨rfl, rfl, rfl⟩ := hcs
    exact ⟨by decide, by decide, fun j hj => by omega⟩
  · simp at hcs
    obtain ⟨rfl, rfl, rfl⟩ := hcs
    simp only [if_true] at hz
    unfold maxLen at hm
    refine ⟨hl, hm, fun j hj => ?_⟩
    have hj2 : j < zs.length := by omega
    have hc := hcell j hj2
    obtain ⟨blk, off, spot⟩ := x
    have hspot : spot = none := by simpa [Addr.add] using World.cell?_spot (hcell 0 (by omega))
    subst hspot
    have e : (⟨blk, off, none⟩ : Addr).add j = ⟨blk, off + j, none⟩ := by unfold Addr.add; split <;> simp_all
    rw [e] at hc
    have hw := hwz (zs.getD j 0) (by simp [List.getD, hj2])
    exact ⟨blk, off, rfl, World.block_lt_of_cell? W _ hc, zs.getD j 0, (bounds_u8 hw).1, (bounds_u8 hw).2, hc⟩

theorem bools_open {fuel : Nat} {a : Option Addr} {len cap : Nat} {x : DataW H × List MemPlace} (hf : DataW.trod enc Tryd.prog W base (fun _ => true) held fuel 55 [.slice a len cap] = some x) :
    len ≤ 9223372036854775807 ∧ BoolsIn W a len := by
  rcases Go.Deep.open_bools Tryd.underlying55 Tryd.underlying4 (by kernel_rfl) hf with ⟨hcs, _⟩ | ⟨x, l, c, B, hcs, _, hl, hm, _, hcell⟩
  · simp at hcs
    obtain ⟨rfl, rfl, rfl⟩ := hcs
    exact ⟨by decide, fun j hj => by omega⟩
  · simp at hcs
    obtain ⟨rfl, rfl, rfl⟩ := hcs
    unfold maxLen at hm
    refine ⟨by omega, fun j hj => ?_⟩
    have hc := hcell j (by omega)
    obtain ⟨blk, off, spot⟩ := x
    have hspot : spot = none := by simpa [Addr.add] using World.cell?_spot (hcell 0 (by omega))
    subst hspot
    have e : (⟨blk, off, none⟩ : Addr).add j = ⟨blk, off + j, none⟩ := by unfold Addr.add; split <;> simp_all
    rw [e] at hc
    exact ⟨blk, off, rfl, World.block_lt_of_cell? W _ hc, B j, hc⟩

theorem rows_open {fuel : Nat} {a : Option Addr} {len cap : Nat} {x : DataW H × List MemPlace} (hf : DataW.trod enc Tryd.prog W base (fun _ => true) held fuel 54 [.slice a len cap] = some x) :
    len ≤ 9223372036854775807 ∧ RowsIn2 W a len := by
  rcases Go.Deep.open_slice1 Tryd.underlying54 (by kernel_rfl) hf with ⟨hcs, _⟩ | ⟨x, l, c, m, n, V, D, Pl, hcs, _, hl, hm, hmm, _, hcell⟩
  · simp at hcs
    obtain ⟨rfl, rfl, rfl⟩ := hcs
    exact ⟨by decide, fun j hj => by omega⟩
  · simp at hcs
    obtain ⟨rfl, rfl, rfl⟩ := hcs
    simp only [if_true] at hmm
    subst hmm
    unfold maxLen at hm
    refine ⟨by omega, fun j hj => ?_⟩
    obtain ⟨hc, ht⟩ := hcell j (by omega)
    obtain ⟨blk, off, spot⟩ := x
    have hspot : spot = none := by simpa [Addr.add] using World.cell?_spot (hcell 0 (by omega)).1
    subst hspot
    have e : (⟨blk, off, none⟩ : Addr).add j = ⟨blk, off + j, none⟩ := by unfold Addr.add; split <;> simp_all
    rw [e] at hc
    rcases open_ints Tryd.underlying38 Tryd.underlying5 (by kernel_rfl) ht with ⟨hcs, _⟩ | ⟨y, l2, c2, zs, hcs, _⟩
    · simp only [List.cons.injEq, and_true] at hcs
      rw [hcs] at hc ht
      obtain ⟨b1, b2, b3⟩ := bytes_open ht
      exact ⟨blk, off, rfl, World.block_lt_of_cell? W _ hc, _, _, _, hc, b1, b2, b3⟩
    · simp only [List.cons.injEq, and_true] at hcs
      rw [hcs] at hc ht
      obtain ⟨b1, b2, b3⟩ := bytes_open ht
      exact ⟨blk, off, rfl, World.block_lt_of_cell? W _ hc, _, _, _, hc, b1, b2, b3⟩
end
end Go.Proofs.YtalommgkigacpaaDoor

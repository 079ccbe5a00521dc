/- The key of an identity in a map. -/
import Derived.Test.YtemhfcfebkjioaaGreatDoorOwn
import Derived.Maps.RangeWalk
import Derived.Maps.OwnSet
import Derived.DeepKeys4
namespace Go.Proofs.YtemhfcfebkjioaaGreatDoor
open Go.RowKit
open Go.Maps (Keyed)

/-! ### keys -/
theorem laidOut : laidOutB Tryz.prog = true := by kernel_rfl
theorem kId : Keyed Tryz.prog 23 := Keyed.of_law (deep_law_laid laidOut (m := 2) (by omega) (of_decide_eq_true (by kernel_rfl)) (by kernel_rfl) (by kernel_rfl))
theorem mapM_some {α β : Type} (f : α → Option β) : ∀ (L : List α), (∀ i ∈ L, ∃ y, f i = some y) → ∃ ys, L.mapM f = some ys
  | [], _ => ⟨[], rfl⟩
  | a :: L, h => by
    obtain ⟨y, hy⟩ := h a (by simp)
    obtain ⟨ys, hys⟩ := mapM_some f L (fun i hi => h i (by simp [hi]))
    exact ⟨y :: ys, by simp [List.mapM_cons, hy, hys]⟩
theorem keyLits_byte (d : Nat) (b : UInt8) : Tryz.prog.keyLits (d + 1) 5 [.int .u8 (b.toNat : Int)] = some [.int .u8 (b.toNat : Int)] := by
  have hw : (Lit.int .u8 (b.toNat : Int)).wf = true := by
    have := b.toNat_lt
    simp [Lit.wf, IntKind.min, IntKind.max, IntKind.bits, IntKind.signed]
    omega
  simp [Program.keyLits, Tryz.underlying5, hw]
theorem keyId (x : Id) : ∃ l, keyOf Tryz.prog 23 (.agg (bC x).toArray) = some l := by
  obtain ⟨d, hd⟩ : ∃ d, Tryz.prog.types.size = d + 1 := Nat.exists_eq_succ_of_ne_zero (by decide +kernel)
  have hk : Tryz.prog.keyType 23 = true := by kernel_rfl
  have hf : (Value.agg (bC x).toArray).formed Tryz.prog 23 = true := by simp [Value.formed, Tryz.underlying23, cellsId, bC_length]
  obtain ⟨ys, hys⟩ := mapM_some (fun i => Tryz.prog.keyLits (d + 1) 5 (((bC x).drop (i * Tryz.prog.cellsOf 5)).take (Tryz.prog.cellsOf 5))) (List.range 32) (fun i hi => by
    have hi' : i < 32 := by simpa using hi
    rw [cellsByte, Nat.mul_one, List.drop_eq_getElem_cons (by rw [bC_length]; exact hi')]
    simp only [bC, List.getElem_map, List.take_succ_cons, List.take_zero]
    exact ⟨_, keyLits_byte d _⟩)
  have hl : Tryz.prog.keyLits (Tryz.prog.types.size + 1) 23 (bC x) = some ys.flatten := by
    rw [hd]
    simp only [Program.keyLits, Tryz.underlying23]
    rw [if_pos (by rw [bC_length, cellsId])]
    simp only [Program.keyLits, Tryz.underlying5] at hys ⊢
    rw [hys]; rfl
  refine ⟨.string (keyBytes ys.flatten), ?_⟩
  unfold keyOf
  rw [Tryz.underlying23]
  simp only [hk, hf, Bool.and_self, if_true, Value.cells, List.toList_toArray, hl, Option.map_some]
/-- The key of an identity. -/
noncomputable def kl (x : Id) : Lit := Classical.choose (keyId x)
theorem kl_spec (x : Id) : keyOf Tryz.prog 23 (.agg (bC x).toArray) = some (kl x) := Classical.choose_spec (keyId x)
theorem kl_inj {x y : Id} (h : kl x = kl y) : x = y := by
  have h1 := kl_spec x
  rw [h] at h1
  have := kId.inj h1 (kl_spec y)
  exact bC_inj (List.toArray_inj (Value.agg.inj this))
theorem kl_key (x : Id) : WideAt.IsKeyLit (kl x) := kId.key (kl_spec x)
end Go.Proofs.YtemhfcfebkjioaaGreatDoor

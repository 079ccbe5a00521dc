/- The statement's few. -/
import Derived.Test.YtemhfcfebkjioaaGreatDoorMade
namespace Go.Proofs.YtemhfcfebkjioaaGreatDoor
open Go.RowKit

def grpLen (x : Rw) : Nat := match x.groups with | .slice _ n _ => n | _ => 0
def smallB (x : Rw) : Bool := decide (grpLen x ≤ 20)
def fewB (rows : List Rw) (m : Nat) : Bool := rows.all smallB && (decide (rows.length ≤ 30) && decide (m ≤ 30))
theorem small_succ (rows : List Rw) (k : Nat) (h : k < rows.length) : (rows.take (k + 1)).all smallB = ((rows.take k).all smallB && smallB rows[k]) := by
  rw [List.take_succ_eq_append_getElem h, List.all_append]; simp
set_option maxRecDepth 100000 in
set_option maxHeartbeats 1000000 in
theorem fewC (rows : List Rw) (v : Value) (a' : Option Addr) (m c' : Nat) (w : World) (hv : SlAt w v 83 (rows.map rwC)) (hs : ∀ x ∈ rows, ∃ a n c, x.groups = .slice a n c) (hl : rows.length ≤ 9223372036854775807) (hm : m ≤ 9223372036854775807) :
    Calls Tryz.prog 13 #[v, .slice a' m c'] w fun e w' => e = .returned (.bool (fewB rows m)) ∧ w = w' := by
  obtain ⟨a, cap, rfl, hc, hj⟩ := hv
  have e1 : (rows.map rwC).length = rows.length := by simp
  rw [e1] at hc ⊢
  have HJ := Lib.hid hj; have HS := Lib.hid hs
  clear hj hs e1
  go_enter Tryz.func13, Tryz.ntmps13
  go_wp2_with fail
  go_loopw [5, 6, 7, 8, 9, 10, 11, 12, 13, 14, 15, 16, 17, 18] (fun i _ _ _ _ _ _ _ _ _ _ _ _ _ wr => ∃ k : Nat, k ≤ rows.length ∧ i = .int .i64 k ∧ wr = w ∧ Hid ((rows.take k).all smallB = true)) (fun i _ _ _ _ _ _ _ _ _ _ _ _ _ _ => rows.length - (intOf i).toNat)
  case atStart => exact ⟨0, Nat.zero_le _, rfl, rfl, rfl⟩
  case round =>
    obtain ⟨k, hk, rfl, rfl, hA⟩ := hrel
    by_cases hlt : k < rows.length
    · obtain ⟨b, o, rfl, hb, q1, q2⟩ := HJ.out k (by simpa using hlt)
      obtain ⟨ga, gn, gc, hg⟩ := HS.out _ (List.getElem_mem hlt)
      rw [List.getElem_map] at q2
      have hk1 : (k : Int) < (rows.length : Int) := by omega
      have hk2 : (0 : Int) ≤ (k : Int) := by omega
      have hgl : grpLen rows[k] = gn := by unfold grpLen; rw [hg]
      have c1 : wr.cell? ⟨b, o + k * 83 + 49, none⟩ = some (.slice ga gn gc) := by
        have h1 := hasRow_iff.1 q1 49 (by decide)
        obtain ⟨y, hy⟩ := Option.isSome_iff_exists.1 h1
        have h2 : (rowAt wr ⟨b, o + k * 83, none⟩ 83)[49]? = some y := by rw [rowAt, List.getElem?_map, List.getElem?_range (by decide), Option.map_some, hy]; rfl
        rw [q2, rw_groups, hg] at h2
        rw [Addr.add_lit] at hy
        rw [hy, ← h2]
      have HSU := Lib.hid (small_succ rows k hlt)
      clear q1 q2
      by_cases h20 : gn ≤ 20
      · have hn : Hid ((rows.take (k + 1)).all smallB = true) := by show _ = _; rw [HSU.out, hA.out]; unfold smallB; rw [hgl]; simp [h20]
        have hd : ¬ (20 : Int) < (gn : Int) := by omega
        go_wp2_with fail
        go_roundw
        case rel => exact ⟨k + 1, by omega, by go_num, trivial, hn.out⟩
        case measure => simp [intOf]; omega
      · have hd : (20 : Int) < (gn : Int) := by omega
        have hf : Hid (fewB rows m = false) := by
          show _ = _
          have : rows.all smallB = false := by
            rw [List.all_eq_false]; exact ⟨rows[k], List.getElem_mem hlt, by unfold smallB; rw [hgl]; simp; omega⟩
          unfold fewB; rw [this]; rfl
        go_wp2_with fail
        go_ret
        exact ⟨ret_bool hf.out.symm, rfl⟩
    · have hk1 : ¬ (k : Int) < (rows.length : Int) := by omega
      have hf : Hid (fewB rows m = (decide (rows.length ≤ 30) && decide (m ≤ 30))) := by
        have := hA.out; rw [List.take_of_length_le (by omega)] at this
        show _ = _; unfold fewB; rw [this]; rfl
      by_cases h30 : rows.length ≤ 30
      · have hd1 : (rows.length : Int) ≤ 30 := by omega
        by_cases hm30 : m ≤ 30
        · have hd2 : (m : Int) ≤ 30 := by omega
          go_wp2_with fail
          go_ret
          exact ⟨ret_bool (by rw [hf.out]; simp [h30, hm30]), rfl⟩
        · have hd2 : ¬ (m : Int) ≤ 30 := by omega
          go_wp2_with fail
          go_ret
          exact ⟨ret_bool (by rw [hf.out]; simp [h30, hm30]; try omega), rfl⟩
      · have hd1 : ¬ (rows.length : Int) ≤ 30 := by omega
        go_wp2_with fail
        go_ret
        exact ⟨ret_bool (by rw [hf.out]; simp [h30]; try omega), rfl⟩
theorem one_row {w : World} {b n : Nat} {cs : List Value} {t : TypeId} (h : w.heap[b]? = some (.cells cs.toArray t (0, 0))) (hn : cs.length = n) : SlAt w (.slice (some ⟨b, 0, none⟩) 1 1) n [cs] := by
  refine ⟨_, 1, rfl, Nat.le_refl _, fun j hj => ⟨b, 0, rfl, (Array.getElem?_eq_some_iff.1 h).1, ?_, ?_⟩⟩
  · have : j = 0 := by simp at hj; exact hj
    subst this; rw [Nat.zero_mul]; exact hasRow_block h 0 n (by omega)
  · have : j = 0 := by simp at hj; exact hj
    subst this; rw [Nat.zero_mul]; exact (rowAt_block h 0 n (by omega)).trans (rowOf_all _ _ hn)
end Go.Proofs.YtemhfcfebkjioaaGreatDoor

/- The statement's set: what has returns. -/
import Derived.Test.YtemhfcfebkjioaaGreatDoorEq
namespace Go.Proofs.YtemhfcfebkjioaaGreatDoor
open Go.RowKit

def hasE (l : List Id) (x : Id) : Bool := l.any fun y => y == x
theorem hasE_iff (l : List Id) (x : Id) : hasE l x = true ↔ x ∈ l := by
  unfold hasE; rw [List.any_eq_true]
  constructor
  · rintro ⟨y, hy, h⟩; rw [← (by simpa using h : y = x)]; exact hy
  · intro h; exact ⟨x, h, by simp⟩
set_option maxRecDepth 100000 in
set_option maxHeartbeats 2000000 in
theorem hasC (l : List Id) (a : Option Addr) (n cap : Nat) (x : Id) (w : World) (hv : IdsAt w (.slice a n cap) l) (hl : l.length ≤ 1000000) :
    Calls Tryz.prog 22 #[.agg #[.slice a n cap], .agg (bC x).toArray] w fun e w' => e = .returned (.bool (hasE l x)) ∧ Gr w w' := by
  obtain ⟨a', cap', hsv, hc, hj⟩ := hv
  rw [List.length_map] at hsv hc
  injection hsv with q1 q2 q3
  subst q1; subst q2; subst q3
  have HJ := Lib.hid hj
  have gW := ((Gr.refl w).alloc (.cells #[.slice a l.length cap] 55)).alloc (.cells (bC x).toArray 23)
  have B1 := Lib.hid (show ((w.alloc (.cells #[.slice a l.length cap] 55)).alloc (.cells (bC x).toArray 23)).cell? ⟨w.heap.size, 0, none⟩ = some (.slice a l.length cap) by rw [World.cell?_alloc_lt _ _ _ (by simp), World.cell?_alloc_new]; rfl)
  have B2 := Lib.hid (heap_alloc_new (w.alloc (.cells #[.slice a l.length cap] 55)) (.cells (bC x).toArray 23))
  have HG := Lib.hid gW
  clear hj gW
  go_enter Tryz.func22, Tryz.ntmps22
  go_wp2_with fail
  generalize hW : (w.alloc (.cells #[.slice a l.length cap] 55)).alloc (.cells (bC x).toArray 23) = W at *
  have c1 := B1.out
  have b2 := B2.out
  rw [World.size_alloc] at b2
  have r1 := hasRow_block b2 0 32 (by rw [bC_length]; decide)
  have r2 := (rowAt_block b2 0 32 (by rw [bC_length]; decide)).trans (rowOf_all _ _ (bC_length x))
  have HW := Lib.hid hW
  clear hW b2
  go_loopw [5, 6, 7, 8, 9, 10, 11, 12, 13, 14, 15, 16, 17, 18, 19] (fun i _ _ _ _ _ _ _ _ _ _ _ _ _ _ wr => ∃ k : Nat, k ≤ l.length ∧ i = .int .i64 k ∧ Hid (hasE (l.take k) x = false) ∧ ∃ q, wr = W.drewN q) (fun i _ _ _ _ _ _ _ _ _ _ _ _ _ _ _ => l.length - (intOf i).toNat)
  case atStart => exact ⟨0, Nat.zero_le _, rfl, rfl, 0, rfl⟩
  case round =>
    obtain ⟨k, hk, rfl, hh, q, rfl⟩ := hrel
    by_cases hlt : k < l.length
    · obtain ⟨b, o, rfl, hb, h1, h2⟩ := HJ.out k (by simpa using hlt)
      rw [List.getElem_map] at h2
      have u1 := (HG.out.hasRow hb).trans h1
      have u2 := (HG.out.rowAt hb).trans h2
      have hk1 : (k : Int) < (l.length : Int) := by omega
      have hk2 : (0 : Int) ≤ (k : Int) := by omega
      have HS : Hid (hasE (l.take (k + 1)) x = (hasE (l.take k) x || l[k] == x)) := by show _ = _; unfold hasE; rw [List.take_succ_eq_append_getElem hlt, List.any_append]; simp
      have HT : Hid ((l[k] == x) = true → hasE l x = true) := fun h => List.any_eq_true.2 ⟨l[k], List.getElem_mem hlt, h⟩
      clear h1 h2
      generalize l[k] = y at *
      cases hx : (y == x) with
      | true =>
        have HX := Lib.hid hx
        go_wp2_with fail
        go_quiet (fail)
        go_wp2_with fail
        go_ret
        exact ⟨ret_bool (HT.out HX.out).symm, (HG.out.drewN _).drewN _⟩
      | false =>
        have HX := Lib.hid hx
        go_wp2_with fail
        go_quiet (fail)
        go_wp2_with fail
        go_roundw
        case rel => exact ⟨k + 1, by omega, by go_num, by show _ = _; rw [HS.out, hh.out, HX.out]; rfl, _, rfl⟩
        case measure => simp [intOf]; omega
    · have hk1 : ¬ (k : Int) < (l.length : Int) := by omega
      go_wp2_with fail
      go_ret
      refine ⟨ret_bool ?_, HG.out.drewN _⟩
      have := hh.out
      rw [List.take_of_length_le (by omega)] at this
      rw [this]
end Go.Proofs.YtemhfcfebkjioaaGreatDoor

/- The statement's equal, and what has of its set returns. -/
import Derived.Test.YtemhfcfebkjioaaGreatDoorInc
import Derived.Test.YtemhfcfebkjioaaGreatDoorApp
namespace Go.Proofs.YtemhfcfebkjioaaGreatDoor
open Go.RowKit

def IdsAt (w : World) (v : Value) (l : List Id) : Prop := SlAt w v 32 (l.map bC)
theorem IdsAt.gr {w w' : World} {v : Value} {l : List Id} (h : IdsAt w v l) (hg : Gr w w') : IdsAt w' v l := SlAt.gr h hg
theorem take_eq_succ {a b : List Id} {k : Nat} (ha : k < a.length) (hb : k < b.length) (h : a.take k = b.take k) (e : a[k] = b[k]) : a.take (k + 1) = b.take (k + 1) := by
  rw [List.take_succ_eq_append_getElem ha, List.take_succ_eq_append_getElem hb, h, e]
set_option maxRecDepth 100000 in
set_option maxHeartbeats 2000000 in
theorem equalC (a b : List Id) (va vb : Value) (w : World) (ha : IdsAt w va a) (hb : IdsAt w vb b) (hl : a.length ≤ 1000000) (hl2 : b.length ≤ 1000000) :
    Calls Tryz.prog 21 #[va, vb] w fun e w' => e = .returned (.bool (decide (a = b))) ∧ Gr w w' := by
  obtain ⟨aa, ca, rfl, hca, hja⟩ := ha
  obtain ⟨ab, cb, rfl, hcb, hjb⟩ := hb
  simp only [List.length_map] at hca hcb
  have e1 : (a.map bC).length = a.length := by simp
  have e2 : (b.map bC).length = b.length := by simp
  rw [e1, e2]
  have HA := Lib.hid hja; have HB := Lib.hid hjb
  clear hja hjb e1 e2
  by_cases hlen : a.length = b.length
  · have HL := Lib.hid hlen
    have hbl : ∀ k, k < a.length → k < b.length := fun k hk => hlen ▸ hk
    have HBL := Lib.hid hbl
    rw [← hlen]
    clear hlen hbl
    go_enter Tryz.func21, Tryz.ntmps21
    go_wp2_with fail
    go_loopw [5, 11, 12, 13, 14, 15, 16, 17, 18, 19, 20, 21, 22, 23, 24, 25] (fun i _ _ _ _ _ _ _ _ _ _ _ _ _ _ _ wr => ∃ k : Nat, k ≤ a.length ∧ i = .int .i64 k ∧ Hid (a.take k = b.take k) ∧ ∃ q, wr = w.drewN q) (fun i _ _ _ _ _ _ _ _ _ _ _ _ _ _ _ _ => a.length - (intOf i).toNat)
    case atStart => exact ⟨0, Nat.zero_le _, rfl, rfl, 0, rfl⟩
    case round =>
      obtain ⟨k, hk, rfl, hh, q, rfl⟩ := hrel
      by_cases hlt : k < a.length
      · have hltb := HBL.out k hlt
        obtain ⟨b1, o1, rfl, z1, h1, h2⟩ := HA.out k (by simpa using hlt)
        obtain ⟨b2, o2, rfl, z2, h3, h4⟩ := HB.out k (by simpa using hltb)
        rw [List.getElem_map] at h2 h4
        have hk1 : (k : Int) < (a.length : Int) := by omega
        have hk2 : (0 : Int) ≤ (k : Int) := by omega
        have HS := Lib.hid (fun e => take_eq_succ hlt hltb hh.out e)
        have HNE : Hid (a[k] ≠ b[k] → a ≠ b) := fun hne e => hne (by subst e; rfl)
        generalize a[k] = x at *
        generalize b[k] = y at *
        cases hx : (x == y) with
        | true =>
          have HX : Hid (x = y) := by show x = y; simpa using hx
          go_wp2_with fail
          go_quiet (fail)
          go_wp2_with fail
          go_roundw
          case rel => exact ⟨k + 1, by omega, by go_num, HS.out HX.out, _, rfl⟩
          case measure => simp [intOf]; omega
        | false =>
          have HX : Hid (x ≠ y) := by show x ≠ y; simpa using hx
          go_wp2_with fail
          go_quiet (fail)
          go_wp2_with fail
          go_ret
          exact ⟨ret_bool (by simp [HNE.out HX.out]), ((Gr.refl w).drewN _).drewN _⟩
      · go_wp2_with fail
        go_ret
        refine ⟨ret_bool ?_, (Gr.refl w).drewN _⟩
        have := hh.out
        rw [List.take_of_length_le (by omega), List.take_of_length_le (by rw [← HL.out]; omega)] at this
        simp [this]
  · have hne : ((a.length : Int) != (b.length : Int)) = true := by simp; omega
    have hne2 : ¬ a = b := fun e => hlen (by rw [e])
    have HN := Lib.hid hne2
    clear hlen hne2
    go_enter Tryz.func21, Tryz.ntmps21
    go_wp2_with fail
    go_ret
    exact ⟨ret_bool (by simp [HN.out]), Gr.refl w⟩
theorem infoId : ∃ z, (Tryz.prog.info? 23).map (fun i => (i.zero, i.size, i.bytes)) = some (some z, 32, 32) ∧ z.cells.size = 32 := ⟨.agg (Array.replicate 32 (.int .u8 0)), by kernel_rfl, by decide⟩

def hasE (l : List Id) (x : Id) : Bool := l.any fun y => y == x
theorem hasE_iff (l : List Id) (x : Id) : hasE l x = true ↔ x ∈ l := by
  unfold hasE; rw [List.any_eq_true]
  constructor
  · rintro ⟨y, hy, h⟩; rw [← (by simpa using h : y = x)]; exact hy
  · intro h; exact ⟨x, h, by simp⟩
set_option maxRecDepth 100000 in
set_option maxHeartbeats 2000000 in
theorem hasC (l : List Id) (a : Option Addr) (n cap : Nat) (x : Id) (w : World) (hv : IdsAt w (.slice a n cap) l) (hl : l.length ≤ 1000000) :
    Calls Tryz.prog 22 #[.agg #[.slice a n cap], .agg (bC x).toArray] w fun e w' => e = .returned (.bool (hasE l x)) ∧ Gr w w' := by
  obtain ⟨a', cap', hsv, hc, hj⟩ := hv
  rw [List.length_map] at hsv hc
  injection hsv with q1 q2 q3
  subst q1; subst q2; subst q3
  have HJ := Lib.hid hj
  have gW := ((Gr.refl w).alloc (.cells #[.slice a l.length cap] 55)).alloc (.cells (bC x).toArray 23)
  have B1 := Lib.hid (show ((w.alloc (.cells #[.slice a l.length cap] 55)).alloc (.cells (bC x).toArray 23)).cell? ⟨w.heap.size, 0, none⟩ = some (.slice a l.length cap) by rw [World.cell?_alloc_lt _ _ _ (by simp), World.cell?_alloc_new]; rfl)
  have B2 := Lib.hid (heap_alloc_new (w.alloc (.cells #[.slice a l.length cap] 55)) (.cells (bC x).toArray 23))
  have HG := Lib.hid gW
  clear hj gW
  go_enter Tryz.func22, Tryz.ntmps22
  go_wp2_with fail
  generalize hW : (w.alloc (.cells #[.slice a l.length cap] 55)).alloc (.cells (bC x).toArray 23) = W at *
  have c1 := B1.out
  have b2 := B2.out
  rw [World.size_alloc] at b2
  have r1 := hasRow_block b2 0 32 (by rw [bC_length]; decide)
  have r2 := (rowAt_block b2 0 32 (by rw [bC_length]; decide)).trans (rowOf_all _ _ (bC_length x))
  have HW := Lib.hid hW
  clear hW b2
  go_loopw [5, 6, 7, 8, 9, 10, 11, 12, 13, 14, 15, 16, 17, 18, 19] (fun i _ _ _ _ _ _ _ _ _ _ _ _ _ _ wr => ∃ k : Nat, k ≤ l.length ∧ i = .int .i64 k ∧ Hid (hasE (l.take k) x = false) ∧ ∃ q, wr = W.drewN q) (fun i _ _ _ _ _ _ _ _ _ _ _ _ _ _ _ => l.length - (intOf i).toNat)
  case atStart => exact ⟨0, Nat.zero_le _, rfl, rfl, 0, rfl⟩
  case round =>
    obtain ⟨k, hk, rfl, hh, q, rfl⟩ := hrel
    by_cases hlt : k < l.length
    · obtain ⟨b, o, rfl, hb, h1, h2⟩ := HJ.out k (by simpa using hlt)
      rw [List.getElem_map] at h2
      have u1 := (HG.out.hasRow hb).trans h1
      have u2 := (HG.out.rowAt hb).trans h2
      have hk1 : (k : Int) < (l.length : Int) := by omega
      have hk2 : (0 : Int) ≤ (k : Int) := by omega
      have HS : Hid (hasE (l.take (k + 1)) x = (hasE (l.take k) x || l[k] == x)) := by show _ = _; unfold hasE; rw [List.take_succ_eq_append_getElem hlt, List.any_append]; simp
      have HT : Hid ((l[k] == x) = true → hasE l x = true) := fun h => List.any_eq_true.2 ⟨l[k], List.getElem_mem hlt, h⟩
      clear h1 h2
      generalize l[k] = y at *
      cases hx : (y == x) with
      | true =>
        have HX := Lib.hid hx
        go_wp2_with fail
        go_quiet (fail)
        go_wp2_with fail
        go_ret
        exact ⟨ret_bool (HT.out HX.out).symm, (HG.out.drewN _).drewN _⟩
      | false =>
        have HX := Lib.hid hx
        go_wp2_with fail
        go_quiet (fail)
        go_wp2_with fail
        go_roundw
        case rel => exact ⟨k + 1, by omega, by go_num, by show _ = _; rw [HS.out, hh.out, HX.out]; rfl, _, rfl⟩
        case measure => simp [intOf]; omega
    · have hk1 : ¬ (k : Int) < (l.length : Int) := by omega
      go_wp2_with fail
      go_ret
      refine ⟨ret_bool ?_, HG.out.drewN _⟩
      have := hh.out
      rw [List.take_of_length_le (by omega)] at this
      rw [this]
end Go.Proofs.YtemhfcfebkjioaaGreatDoor

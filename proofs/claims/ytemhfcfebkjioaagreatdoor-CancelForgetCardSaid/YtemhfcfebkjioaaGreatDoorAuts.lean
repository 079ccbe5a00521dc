/- A slice of rows of cells; slices.Contains at authors. -/
import Derived.Test.YtemhfcfebkjioaaGreatDoorIds
namespace Go.Proofs.YtemhfcfebkjioaaGreatDoor
open Go.RowKit

/-- v is a slice whose elements, of n cells each, are the rows l. -/
def SlAt (w : World) (v : Value) (n : Nat) (l : List (List Value)) : Prop :=
  ∃ a cap, v = .slice a l.length cap ∧ l.length ≤ cap ∧ ∀ j (h : j < l.length), ∃ b k, a = some ⟨b, k, none⟩ ∧ b < w.heap.size ∧ hasRow w ⟨b, k + j * n, none⟩ n = true ∧ rowAt w ⟨b, k + j * n, none⟩ n = l[j]
theorem SlAt.gr {w w' : World} {v : Value} {n : Nat} {l : List (List Value)} (h : SlAt w v n l) (hg : Gr w w') : SlAt w' v n l := by
  obtain ⟨a, cap, hv, hc, hj⟩ := h
  refine ⟨a, cap, hv, hc, fun j hlt => ?_⟩
  obtain ⟨b, k, ha, hb, h1, h2⟩ := hj j hlt
  exact ⟨b, k, ha, Nat.lt_of_lt_of_le hb hg.size, (hg.hasRow hb).trans h1, (hg.rowAt hb).trans h2⟩
def AutsAt (w : World) (v : Value) (l : List Aut) : Prop := SlAt w v 16 (l.map bC)
theorem AutsAt.gr {w w' : World} {v : Value} {l : List Aut} (h : AutsAt w v l) (hg : Gr w w') : AutsAt w' v l := SlAt.gr h hg

def hasA (l : List Aut) (x : Aut) : Bool := l.any fun y => x == y
def hasTo (l : List Aut) (x : Aut) (k : Nat) : Bool := hasA (l.take k) x
theorem hasTo_succ (l : List Aut) (x : Aut) (k : Nat) (h : k < l.length) : hasTo l x (k + 1) = (hasTo l x k || x == l[k]) := by
  unfold hasTo hasA; rw [List.take_succ_eq_append_getElem h, List.any_append]; simp
theorem hasTo_all (l : List Aut) (x : Aut) (k : Nat) (h : l.length ≤ k) : hasTo l x k = hasA l x := by
  unfold hasTo; rw [List.take_of_length_le h]
theorem hasA_at (l : List Aut) (x : Aut) (k : Nat) (h : k < l.length) (hx : (x == l[k]) = true) : hasA l x = true := List.any_eq_true.2 ⟨l[k], List.getElem_mem h, hx⟩

/-- What slices.Index leaves: a number that is negative just if x is not there. -/
def IdxPost (l : List Aut) (x : Aut) (w : World) (e : Ending) (w' : World) : Prop := ∃ i : Int, e = .returned (.int .i64 i) ∧ (decide (0 ≤ i) = hasA l x) ∧ Lay w w'

set_option maxRecDepth 100000 in
set_option maxHeartbeats 2000000 in
theorem indexA (l : List Aut) (v : Value) (x : Aut) (w : World) (hv : AutsAt w v l) (hl : l.length ≤ 1000000) :
    Calls Tryz.prog 112 #[v, .agg (bC x).toArray] w (IdxPost l x w) := by
  obtain ⟨a, cap, rfl, hc, hj⟩ := hv
  have HJ := Lib.hid hj
  simp only [List.length_map] at hc
  clear hj
  have e1 : (l.map bC).length = l.length := by simp
  rw [e1]
  clear e1
  go_enter Tryz.func112, Tryz.ntmps112
  go_wp2_with fail
  go_loopw [5, 8, 10, 11, 12, 13, 14, 15, 16] (fun _ i _ _ _ _ _ _ _ wr => ∃ k : Nat, k ≤ l.length ∧ i = .int .i64 k ∧ Hid (hasTo l x k = false) ∧ ∃ q, wr = (w.alloc (.cells (bC x).toArray 25)).drewN q) (fun _ i _ _ _ _ _ _ _ _ => l.length - (intOf i).toNat)
  case atStart => exact ⟨0, Nat.zero_le _, rfl, rfl, 0, rfl⟩
  case round =>
    obtain ⟨k, hk, rfl, hh, q, rfl⟩ := hrel
    by_cases hlt : k < l.length
    · obtain ⟨b, o, rfl, hb, h1, h2⟩ := HJ.out k (by simpa using hlt)
      have HS := Lib.hid (hasTo_succ l x k hlt)
      have h2' : rowAt w ⟨b, o + k * 16, none⟩ 16 = bC l[k] := by rw [h2]; simp
      clear h2
      cases hx : (x == l[k]) with
      | true =>
        have HX := Lib.hid hx
        go_wp2_with fail
        go_quiet (fail)
        go_wp2_with fail
        go_ret
        refine ⟨_, rfl, ?_, (((Lay.refl w).alloc _).drewN _).drewN _⟩
        rw [hasA_at l x k hlt HX.out]; simp
      | false =>
        have HX := Lib.hid hx
        go_wp2_with fail
        go_quiet (fail)
        go_wp2_with fail
        go_roundw
        case rel => exact ⟨k + 1, by omega, by go_num, by show _ = _; rw [HS.out, hh.out, HX.out]; rfl, _, rfl⟩
        case measure => simp [intOf]; omega
    · go_wp2_with fail
      go_ret
      refine ⟨_, rfl, ?_, ((Lay.refl w).alloc _).drewN _⟩
      rw [← hasTo_all l x k (by omega), hh.out]; decide

set_option maxRecDepth 100000 in
set_option maxHeartbeats 2000000 in
theorem containsA (l : List Aut) (v : Value) (x : Aut) (w : World) (hv : AutsAt w v l) (hl : l.length ≤ 1000000) :
    Calls Tryz.prog 69 #[v, .agg (bC x).toArray] w fun e w' => e = .returned (.bool (hasA l x)) ∧ Lay w w' := by
  have hg := (Lay.refl w).alloc (.cells (bC x).toArray 25)
  have HI := Lib.hid (indexA l v x _ (hv.gr hg.1) hl)
  have HG := Lib.hid hg
  clear hg hv
  go_enter Tryz.func69, Tryz.ntmps69
  go_wp2_with fail
  refine HI.out.mono ?_
  rintro e w1 ⟨i, rfl, hi, hg1⟩
  have HI2 := Lib.hid hi
  clear hi
  go_wp2_with fail
  go_ret
  exact ⟨ret_bool HI2.out, HG.out.trans hg1⟩
end Go.Proofs.YtemhfcfebkjioaaGreatDoor

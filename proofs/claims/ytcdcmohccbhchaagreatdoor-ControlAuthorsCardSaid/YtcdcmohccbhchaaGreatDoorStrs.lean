/- A slice of strings; slices.ContainsFunc at strings, for whatever closure that lays blocks alone. -/
import Derived.Test.YtcdcmohccbhchaaGreatDoorOwn
namespace Go.Proofs.YtcdcmohccbhchaaGreatDoor
open Go.RowKit

/-- v is a slice of the strings l. -/
def StrsAt (w : World) (v : Value) (l : List ByteArray) : Prop :=
  ∃ a cap, v = .slice a l.length cap ∧ ∀ j (h : j < l.length), ∃ b k, a = some ⟨b, k, none⟩ ∧ b < w.heap.size ∧ w.cell? ⟨b, k + j, none⟩ = some (.string l[j])
theorem StrsAt.gr {w w' : World} {v : Value} {l : List ByteArray} (h : StrsAt w v l) (hg : Gr w w') : StrsAt w' v l := by
  obtain ⟨a, cap, hv, hj⟩ := h
  refine ⟨a, cap, hv, fun j hlt => ?_⟩
  obtain ⟨b, k, ha, hb, h1⟩ := hj j hlt
  exact ⟨b, k, ha, Nat.lt_of_lt_of_le hb hg.size, (hg.cell (p := ⟨b, k + j, none⟩) hb).trans h1⟩

def anyTo (l : List ByteArray) (p : ByteArray → Bool) (k : Nat) : Bool := (l.take k).any p
theorem anyTo_succ (l : List ByteArray) (p : ByteArray → Bool) (k : Nat) (h : k < l.length) : anyTo l p (k + 1) = (anyTo l p k || p l[k]) := by
  unfold anyTo; rw [List.take_succ_eq_append_getElem h, List.any_append]; simp
/-- What slices.IndexFunc leaves. -/
def IdxFPost (b : Bool) (w : World) (e : Ending) (w' : World) : Prop := ∃ i : Int, e = .returned (.int .i64 i) ∧ (decide (0 ≤ i) = b) ∧ Gr w w'

set_option maxRecDepth 100000 in
set_option maxHeartbeats 2000000 in
theorem indexFuncS (l : List ByteArray) (v : Value) (p : ByteArray → Bool) (g : Nat) (lb : Array Value) (w : World) (eg : ∀ args w, (callFunc g args).run Tryz.prog w = .ok (.enter g args) w)
    (hp : ∀ s ∈ l, ∀ W, Gr w W → Calls Tryz.prog g (#[.string s] ++ lb) W fun e W' => e = .returned (.bool (p s)) ∧ Gr W W') (hv : StrsAt w v l) (hl : l.length ≤ 1000000) :
    Calls Tryz.prog 100 #[v, .func (.func g) #[] lb] w (IdxFPost (l.any p) w) := by
  obtain ⟨a, cap, rfl, hj⟩ := hv
  have HJ := Lib.hid hj
  have HP := Lib.hid hp
  clear hj hp
  go_enter Tryz.func100, Tryz.ntmps100
  go_wp2_with fail
  go_loopw [5, 8, 10, 11, 12, 13, 14, 15, 16] (fun _ i _ _ _ _ _ _ _ wr => ∃ k : Nat, k ≤ l.length ∧ i = .int .i64 k ∧ Hid (anyTo l p k = false) ∧ Hid (Gr w wr)) (fun _ i _ _ _ _ _ _ _ _ => l.length - (intOf i).toNat)
  case atStart => exact ⟨0, Nat.zero_le _, rfl, rfl, Gr.refl w⟩
  case round =>
    obtain ⟨k, hk, rfl, hh, hG⟩ := hrel
    by_cases hlt : k < l.length
    · obtain ⟨b, o, rfl, hb, h1⟩ := HJ.out k hlt
      have HS := Lib.hid (anyTo_succ l p k hlt)
      have h1' := (hG.out.cell (p := ⟨b, o + k, none⟩) hb).trans h1
      clear h1
      have hmem : Hid (l[k] ∈ l) := List.getElem_mem hlt
      have hall : Hid (p l[k] = true → l.any p = true) := fun h => List.any_eq_true.2 ⟨_, hmem.out, h⟩
      generalize l[k] = s at *
      go_wp2_with fail
      refine (HP.out s hmem.out _ hG.out).mono ?_
      rintro e w1 ⟨rfl, hg1⟩
      have G1 := Lib.hid (hG.out.trans hg1)
      clear hg1
      cases hx : p s with
      | true =>
        have HX := Lib.hid hx
        clear hx
        go_wp2_with fail
        go_ret
        refine ⟨_, rfl, ?_, G1.out⟩
        rw [hall.out HX.out]; simp
      | false =>
        have HX := Lib.hid hx
        clear hx
        go_wp2_with fail
        go_roundw
        case rel => exact ⟨k + 1, by omega, by go_num, by show _ = _; rw [HS.out, hh.out, HX.out]; rfl, G1.out⟩
        case measure => simp [intOf]; omega
    · go_wp2_with fail
      go_ret
      refine ⟨_, rfl, ?_, hG.out⟩
      have : l.any p = anyTo l p k := by unfold anyTo; rw [List.take_of_length_le (by omega)]
      rw [this, hh.out]; decide

set_option maxRecDepth 100000 in
set_option maxHeartbeats 2000000 in
theorem containsFuncS (l : List ByteArray) (v : Value) (p : ByteArray → Bool) (g : Nat) (lb : Array Value) (w : World) (eg : ∀ args w, (callFunc g args).run Tryz.prog w = .ok (.enter g args) w)
    (hp : ∀ s ∈ l, ∀ W, Gr w W → Calls Tryz.prog g (#[.string s] ++ lb) W fun e W' => e = .returned (.bool (p s)) ∧ Gr W W') (hv : StrsAt w v l) (hl : l.length ≤ 1000000) :
    Calls Tryz.prog 68 #[v, .func (.func g) #[] lb] w fun e w' => e = .returned (.bool (l.any p)) ∧ Gr w w' := by
  have HI := Lib.hid (indexFuncS l v p g lb w eg hp hv hl)
  clear hp hv eg
  go_enter Tryz.func68, Tryz.ntmps68
  go_wp2_with fail
  refine HI.out.mono ?_
  rintro e w1 ⟨i, rfl, hi, hg1⟩
  have HI2 := Lib.hid hi
  clear hi
  go_wp2_with fail
  go_ret
  exact ⟨ret_bool HI2.out, hg1⟩
end Go.Proofs.YtcdcmohccbhchaaGreatDoor

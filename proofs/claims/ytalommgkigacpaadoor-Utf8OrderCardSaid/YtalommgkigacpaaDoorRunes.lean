/- The contracts of utf8.Runes and of the iterator that it returns. -/
import Derived.RangeFuncNested
import Derived.RangeFuncBound
import Derived.RangeFuncCalls
import Derived.RangeFuncLeaves
import Derived.RangeFuncWrites
import Derived.RangeFuncBox
import Derived.Shelf.Abstract
import Derived.Shelf.RegionOpen
import Derived.OwnWalkIn
import Derived.TacticsInMore
import Derived.LoopNIn
import Derived.LoopIn
import Derived.Test.YtalommgkigacpaaDoorKnown
namespace Go.Proofs.YtalommgkigacpaaDoor
open Go.RowKit Go.Shelf
attribute [local go_sem] Oper.semAt_some

/-- The offsets and the code points up to the first error. -/
def tokOf (k : Nat) (l : List UInt8) : List (Nat × Int) := (offOf k l).zip (runOf l)
theorem tokOf_nil (k : Nat) : tokOf k [] = [] := rfl
theorem tokOf_bad (k : Nat) (l : List UInt8) (h : decE l ≠ 0) : tokOf k l = [] := by unfold tokOf; rw [offOf_bad k l h]; rfl
theorem tokOf_good (k : Nat) (l : List UInt8) (h : decE l = 0) : tokOf k l = (k, decR l) :: tokOf (k + decN l) (l.drop (decN l)) := by
  unfold tokOf; rw [offOf_good k l h, runOf_good l h]; rfl
theorem tokOf_len (k : Nat) (l : List UInt8) : (tokOf k l).length = (runOf l).length := by
  unfold tokOf; rw [List.length_zip, ← len_run_off l k]; simp

/-- A round keeps the block in which the string lies. -/
def KeepsBlock (B : Nat) (W W' : World) : Prop := W'.heap[B]? = W.heap[B]?
theorem keepsBlock_t {B : Nat} {a b c : World} (h : KeepsBlock B a b) (k : KeepsBlock B b c) : KeepsBlock B a c := k.trans h

set_option maxHeartbeats 400000 in
theorem runes_any (s : ByteArray) (w : World) :
    Calls Tryd.prog 26 #[.string s] w fun e w' => e = .returned (.func (.func 43) #[] #[.pointer (some ⟨w.heap.size, 0, none⟩)]) ∧ w' = w.alloc (.cells #[.string s] 9) := by
  go_enter Tryd.func26, Tryd.ntmps26
  go_wp2
  go_ret
  exact ⟨rfl, rfl⟩

set_option maxRecDepth 100000 in
set_option maxHeartbeats 2000000 in
/-- Runes's closure, for every loop body that keeps the string's block. -/
theorem runes1_in (n : Nat) (hn : 1 ≤ n) (l Bs : Nat) (s : ByteArray) (hs : s.size ≤ 140737488351232) (ALL : List (Nat × Int)) (hA : Hid (ALL = tokOf 0 (bl s))) (J Jx : List (Nat × Int) → World → Prop)
    (W : World) (hJa : AbidesFrom W.heap.size J)
    (hY : ∀ pre x W1, J pre W1 → pre.length < ALL.length → YieldAt Fence.wide (n - 1) Tryd.prog l #[.int .i64 (x.1 : Int), .int .i32 x.2] W1 fun e W' =>
      (e = .returned (.bool true) ∧ J (pre ++ [x]) W' ∧ KeepsBlock Bs W1 W') ∨ (e = .returned (.bool false) ∧ Jx (pre ++ [x]) W'))
    (hBs : Boxed W Bs 9 (.string s)) (h0 : J [] W) :
    CallsIn Fence.wide n Tryd.prog 43 #[.func (.yield l) #[] #[], .pointer (some ⟨Bs, 0, none⟩)] W fun e W' => (∃ v, e = .returned v) ∧
      ((∃ ys, ys = ALL ∧ J ys W') ∨ (∃ pre, pre <+: ALL ∧ Jx pre W')) := by
  refine callsIn_of_wp Tryd.func43 rfl trivial ?_ rfl
  simp only [Tryd.ntmps43, List.size_toArray, List.length_cons, List.length_nil, Nat.reduceAdd, Nat.reduceSub, Array.replicate_succ, Array.replicate_zero, List.push_toArray, List.append_toArray, List.nil_append, List.cons_append]
  have HY := Lib.hid hY
  have HJ := Lib.hid hJa
  clear hY hJa
  gi_wp2
  gi_loopw [3, 4, 5, 6] (fun i _ _ _ wr => ∃ (k : Nat) (pre : List (Nat × Int)), k ≤ s.size ∧ i = .int .i64 k ∧ Hid (ALL = pre ++ tokOf k ((bl s).drop k)) ∧ Boxed wr Bs 9 (.string s) ∧ J pre wr)
    (fun i _ _ _ _ => s.size - (intOf i).toNat)
  case atStart => exact ⟨0, [], Nat.zero_le _, rfl, hA, hBs, h0⟩
  case round =>
    obtain ⟨k, pre, hk, rfl, kA, hbx, hJs⟩ := hrel
    have hcx := hbx.cell
    have HB := Lib.hid hbx
    clear hbx
    by_cases c : k < s.size
    · have hne : (bl s).drop k ≠ [] := by rw [bl_drop s k c]; simp
      by_cases d : decE ((bl s).drop k) = 0
      · have hn1 := decN_pos _ d
        have hn2 := decN_le ((bl s).drop k)
        rw [List.length_drop, bl_length] at hn2
        have kA' : Hid (ALL = (pre ++ [(k, decR ((bl s).drop k))]) ++ tokOf (k + decN ((bl s).drop k)) ((bl s).drop (k + decN ((bl s).drop k)))) := by
          have := kA.out; rw [tokOf_good _ _ d, List.drop_drop] at this; simpa [Hid] using this
        have D := Lib.hid d
        clear d kA hne
        gi_wp2_with fail
        refine ⟨trivial, ?_⟩
        refine (callsIn_wide.2 (decode_any _ _ (by rw [from_size]; omega))).mono ?_
        rintro e w' ⟨rfl, hg'⟩
        rw [bl_from, D.out]
        generalize decR ((bl s).drop k) = R at *
        generalize decN ((bl s).drop k) = m at *
        have hJ' := HJ.out _ _ _ none hJs (hg'.by none) (fun r e => by cases e)
        have hlen : pre.length < ALL.length := by rw [kA'.out]; simp
        obtain ⟨fn, tmps, assign, body, hy, hR⟩ := HY.out _ (k, R) w' hJ' hlen
        dsimp only at hy
        have hB' : Hid (Boxed w' Bs 9 (.string s)) := by show w'.heap[Bs]? = _; rw [Below.block hg' Bs HB.out.lt]; exact HB.out
        clear hlen hJs
        gi_wp2
        refine hR.mono ?_
        rintro e W3 (⟨rfl, hJ3, hk3⟩ | ⟨rfl, hJx3⟩)
        · gi_wp2
          go_roundw
          case rel => exact ⟨k + m, _, by omega, by go_num, kA', (show W3.heap[Bs]? = _ from hk3.trans hB'.out), hJ3⟩
          case measure => simp [intOf]; omega
        · gi_wp2
          refine bodyPost_ret (results_none rfl _ _ _) rfl ?_
          exact ⟨⟨_, rfl⟩, .inr ⟨_, ⟨_, kA'.out.symm⟩, hJx3⟩⟩
      · have kA' : Hid (pre = ALL) := by
          have := kA.out; rw [tokOf_bad _ _ d, List.append_nil] at this; exact this.symm
        have D : (decE ((bl s).drop k) != 0) = true := by simpa using d
        clear d kA hne
        gi_wp2_with fail
        refine ⟨trivial, ?_⟩
        refine (callsIn_wide.2 (decode_any _ _ (by rw [from_size]; omega))).mono ?_
        rintro e w' ⟨rfl, hg'⟩
        rw [bl_from]
        generalize decR ((bl s).drop k) = R at *
        generalize decN ((bl s).drop k) = m at *
        generalize decE ((bl s).drop k) = E at *
        have hJ' := HJ.out _ _ _ none hJs (hg'.by none) (fun r e => by cases e)
        gi_wp2
        refine ⟨fun _ h => (by cases h), ?_⟩
        gi_wp2
        refine bodyPost_ret (results_none rfl _ _ _) rfl ?_
        exact ⟨⟨_, rfl⟩, .inl ⟨_, kA'.out, hJ'⟩⟩
    · have kA' : Hid (pre = ALL) := by
        have := kA.out; rw [List.drop_of_length_le (by rw [bl_length]; omega), tokOf_nil, List.append_nil] at this; exact this.symm
      clear kA
      gi_wp2
      go_end0
      exact ⟨⟨_, rfl⟩, .inl ⟨_, kA'.out, hJs⟩⟩

/-- What Runes returns: an iterator over the offsets and code points. -/
theorem runes_stops (n : Nat) (hn : 1 ≤ n) (Bs : Nat) (s : ByteArray) (hs : s.size ≤ 140737488351232) (w : World) (hBs : Boxed w Bs 9 (.string s)) :
    SeqStopsK Fence.wide n Tryd.prog 43 #[.pointer (some ⟨Bs, 0, none⟩)] (fun x : Nat × Int => #[Value.int .i64 (x.1 : Int), Value.int .i32 x.2]) (KeepsBlock Bs) (fun ys => ys = tokOf 0 (bl s)) (fun pre => pre <+: tokOf 0 (bl s)) (tokOf 0 (bl s)).length w :=
  fun l J Jx W hW hJ _ hY h0 => runes1_in n hn l Bs s hs _ rfl J Jx W hJ hY (show W.heap[Bs]? = _ by rw [hW.block Bs hBs.lt]; exact hBs) h0
theorem keepsBlock_b {B : Nat} {w : World} (h : B < w.heap.size) : ∀ (W : World) (l : Nat) (o o' : Obj), w.heap.size ≤ l → W.heap[l]? = some o → o.isCells = false → o.isWalk = false → KeepsBlock B W (W.putObj l o') :=
  fun W l o o' hl _ _ _ => World.putObj_heap_other (by omega)
end Go.Proofs.YtalommgkigacpaaDoor

/- The contract of utf8.Count. -/
import Derived.Test.YtalommgkigacpaaDoorRunes
namespace Go.Proofs.YtalommgkigacpaaDoor
open Go.RowKit Go.Shelf
attribute [local go_sem] Oper.semAt_some

set_option maxRecDepth 100000 in
set_option maxHeartbeats 2000000 in
theorem count_in (s : ByteArray) (w : World) (hs : s.size ≤ 140737488351232) (n : Nat) (hn : 3 ≤ n) (h : Hid (errOf (bl s) = 0)) (ALL : List (Nat × Int)) (hA : Hid (tokOf 0 (bl s) = ALL)) :
    CallsIn Fence.wide n Tryd.prog 27 #[.string s] w fun e w' => e = .returned (.tuple #[.int .i64 ALL.length, .int .i64 0]) ∧ Gr w w' := by
  have h1 : 1 ≤ n := by omega
  refine callsIn_of_wp_marks Tryd.func27 rfl trivial ?_ rfl
  simp only [Tryd.ntmps27, List.size_toArray, List.length_cons, List.length_nil, Nat.reduceAdd, Nat.reduceSub, Array.replicate_succ, Array.replicate_zero, List.push_toArray, List.append_toArray, List.nil_append, List.cons_append]
  gi_wp2_with fail
  refine ⟨trivial, ?_⟩
  refine (callsIn_wide.2 (check_any s _ hs)).mono ?_
  rintro e w1 ⟨rfl, hg1⟩
  rw [h.out]
  generalize atOf 0 (bl s) = A
  gi_wp2_with fail
  refine ⟨trivial, ?_⟩
  refine (callsIn_wide.2 (runes_any s _)).mono ?_
  rintro e w2 ⟨rfl, rfl⟩
  gi_wp2_with fail
  have bN : Boxed ((w1.alloc (.cells #[.int .i64 0] 3)).alloc (.cells #[.string s] 9)) w1.heap.size 3 (.int .i64 0) := (Boxed.new w1 3 (.int .i64 0)).alloc _
  have bS := Boxed.new (w1.alloc (.cells #[.int .i64 0] 3)) 9 (.string s)
  rw [World.size_alloc] at bS
  have hB0 : Below w.heap.size w ((w1.alloc (.cells #[.int .i64 0] 3)).alloc (.cells #[.string s] 9)) := (hg1.alloc _).alloc _
  have hsz := hg1.size
  have hAl : ALL.length ≤ s.size := by
    rw [← hA.out, tokOf_len, ← bl_length]; exact len_run _
  have hseq := runes_stops (n - 1) (by omega) (w1.heap.size + 1) s hs _ bS
  rw [hA.out] at hseq
  refine wpIn_rangeFunc_ownG rfl h1 (gf := 43) (lb := #[.pointer (some ⟨w1.heap.size + 1, 0, none⟩)]) rfl trivial (enters_of Tryd.func43 (by kernel_rfl) rfl)
    hseq keepsBlock_t (keepsBlock_b (by simp)) (Below.refl _ _) (fun _ => rfl)
    (fun pre W => Boxed W w1.heap.size 3 (.int .i64 pre.length) ∧ Below w.heap.size w W)
    (fun _ _ _ => False)
    (OwnFrom.and (Own.from (boxed_own w1.heap.size 3 (fun pre : List (Nat × Int) => .int .i64 pre.length)) _) (ownFrom_below (Nat.le_refl _) (by simp; omega)))
    (fun _ _ _ _ _ hs _ _ => hs)
    ⟨bN, hB0⟩
    (fun x => { tmps := #[.string s, undef, .int .i64 0, .int .i64 0, .int .i64 A, .int .i64 0, .pointer (some ⟨w1.heap.size, 0, none⟩), .tuple #[.int .i64 A, .int .i64 0], .string s, .tuple #[.int .i64 A, .int .i64 0], .int .i64 A, .int .i64 0, .int .i64 0, .bool false, undef, .string s, .func (.func 43) #[] #[.pointer (some ⟨w1.heap.size + 1, 0, none⟩)], .int .i64 (x.1 : Int), .int .i32 x.2, undef, undef, undef], defers := [] }) ?assign ?body ?done ?stop
  case assign =>
    intro l x W K hK
    gi_wp2
    simpa using hK
  case body =>
    rintro l pre x W ⟨hbx, hB⟩ hlt
    have hc := hbx.cell
    have hf := hbx.frozen
    have HB := Lib.hid hbx
    clear hbx
    gi_wp2
    exact ⟨(KeepsOthers.setCell _ _ _).from _, Below.heap_setCell W ⟨w1.heap.size, 0, none⟩ _ (w1.heap.size + 1) (by simp), by
      have := Boxed.set (.int .i64 ((pre.length : Int) + 1)) HB.out
      simpa using this, hB.setCell (p := ⟨w1.heap.size, 0, none⟩) hsz _⟩
  case done =>
    rintro D ys W hD rfl ⟨hbx, hB⟩ hK
    have hc := hbx.cell
    gi_wp2
    refine ⟨by simp, .inl ⟨_, _, rfl, run_takeDeferred hK, ?_⟩⟩
    exact ⟨_, results_tmp2 rfl _ _ _, rfl, hB.trans (belowK_b (w := w) (Nat.le_refl _) W D _ _ (by simp at hD; omega) hK rfl rfl)⟩
  case stop =>
    rintro D c pre W _ _ h _
    exact h.elim

set_option maxHeartbeats 400000 in
theorem count_bad (s : ByteArray) (w : World) (hs : s.size ≤ 140737488351232) (h : (errOf (bl s) != 0) = true) :
    Calls Tryd.prog 27 #[.string s] w fun e w' => e = .returned (.tuple #[.int .i64 0, .int .i64 (errOf (bl s))]) ∧ Gr w w' := by
  go_enter Tryd.func27, Tryd.ntmps27
  go_wp2_with fail
  refine (check_any s _ hs).mono ?_
  rintro e w1 ⟨rfl, hg1⟩
  generalize atOf 0 (bl s) = A
  go_wp2_with fail
  go_ret2
  exact ⟨rfl, hg1⟩

/-- The number of code points, if the string is valid. -/
def cntZ (l : List UInt8) : Int := if errOf l = 0 then ((runOf l).length : Int) else 0
/-- utf8.Count. -/
theorem count_any (s : ByteArray) (w : World) (hs : s.size ≤ 140737488351232) :
    Calls Tryd.prog 27 #[.string s] w fun e w' => e = .returned (.tuple #[.int .i64 (cntZ (bl s)), .int .i64 (errOf (bl s))]) ∧ Gr w w' := by
  by_cases h : errOf (bl s) = 0
  · have e1 : cntZ (bl s) = ((tokOf 0 (bl s)).length : Int) := by unfold cntZ; rw [if_pos h, tokOf_len]
    rw [e1, h]
    exact callsIn_wide.1 (count_in s w hs 3 (by omega) h _ rfl)
  · have e1 : cntZ (bl s) = 0 := by unfold cntZ; rw [if_neg h]
    rw [e1]
    exact count_bad s w hs (by simpa using h)
end Go.Proofs.YtalommgkigacpaaDoor

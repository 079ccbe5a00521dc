/- The contracts of utf8.isControl, the reference's Control, and utf8.Printable. -/
import Derived.Test.YtalommgkigacpaaDoorCount
namespace Go.Proofs.YtalommgkigacpaaDoor
open Go.RowKit Go.Shelf
attribute [local go_sem] Oper.semAt_some

/-- A control character. -/
def ctlB (r : Int) : Bool := decide (r < 32) || (decide (127 ≤ r) && decide (r ≤ 159)) || decide (r = 8232) || decide (r = 8233)
theorem ctlB_iff (r : Int) : ctlB r = true ↔ r < 32 ∨ (127 ≤ r ∧ r ≤ 159) ∨ r = 8232 ∨ r = 8233 := by
  unfold ctlB; simp only [Bool.or_eq_true, Bool.and_eq_true, decide_eq_true_eq]; omega

set_option maxHeartbeats 400000 in
theorem isControl_any (r : Int) (w : World) : Calls Tryd.prog 44 #[.int .i32 r] w fun e w' => e = .returned (.bool (ctlB r)) ∧ w = w' := by
  go_enter Tryd.func44, Tryd.ntmps44
  go_wp2
  all_goals
    go_ret
    refine ⟨ret_bool ?_, rfl⟩
    rw [Bool.eq_iff_iff, ctlB_iff]
    simp at *
    omega
set_option maxHeartbeats 400000 in
theorem control_any (r : Int) (w : World) : Calls Tryd.prog 28 #[.int .i64 r] w fun e w' => e = .returned (.bool (ctlB r)) ∧ w = w' := by
  go_enter Tryd.func28, Tryd.ntmps28
  go_wp2
  all_goals
    go_ret
    refine ⟨ret_bool ?_, rfl⟩
    rw [Bool.eq_iff_iff, ctlB_iff]
    simp at *
    omega

/-- Printable. -/
def prB (l : List UInt8) : Bool := (errOf l == 0) && (runOf l).all fun r => !ctlB r

set_option maxHeartbeats 400000 in
theorem print_bad (s : ByteArray) (w : World) (hs : s.size ≤ 140737488351232) (h : Hid ((errOf (bl s) == 0) = false)) :
    Calls Tryd.prog 29 #[.string s] w fun e w' => e = .returned (.bool false) ∧ Gr w w' := by
  have hc : ∀ w1 : World, Gr (w.alloc (.cells #[.bool false] 4)) w1 → w1.cell? ⟨w.heap.size, 0, none⟩ = some (.bool false) ∧ w1.frozen? ⟨w.heap.size, 0, none⟩ = false := by
    intro w1 hg
    have b := Boxed.new w 4 (.bool false)
    exact ⟨(hg.cell (p := ⟨w.heap.size, 0, none⟩) (by simp)).trans b.cell, (hg.frozen (p := ⟨w.heap.size, 0, none⟩) (by simp)).trans b.frozen⟩
  have HC := Lib.hid hc
  clear hc
  go_enter Tryd.func29, Tryd.ntmps29
  go_wp2_with fail
  refine (valid_any s _ hs).mono ?_
  rintro e w1 ⟨rfl, hg1⟩
  rw [h.out]
  obtain ⟨c1, f1⟩ := HC.out _ hg1
  go_wp2_with fail
  refine bodyPost_ret (v := .bool false) (by simp [results, Tryd.results29, go_sem, c1]) rfl ⟨rfl, ?_⟩
  exact (((Gr.refl w).alloc _).trans hg1).setCell (p := ⟨w.heap.size, 0, none⟩) (Nat.le_refl _) _

set_option maxRecDepth 100000 in
set_option maxHeartbeats 2000000 in
theorem print_in (s : ByteArray) (w : World) (hs : s.size ≤ 140737488351232) (n : Nat) (hn : 3 ≤ n) (h : Hid ((errOf (bl s) == 0) = true)) (ALL : List (Nat × Int)) (hA : Hid (tokOf 0 (bl s) = ALL)) :
    CallsIn Fence.wide n Tryd.prog 29 #[.string s] w fun e w' => e = .returned (.bool (ALL.all fun x => !ctlB x.2)) ∧ Gr w w' := by
  have h1 : 1 ≤ n := by omega
  refine callsIn_of_wp_marks Tryd.func29 rfl trivial ?_ rfl
  simp only [Tryd.ntmps29, List.size_toArray, List.length_cons, List.length_nil, Nat.reduceAdd, Nat.reduceSub, Array.replicate_succ, Array.replicate_zero, List.push_toArray, List.append_toArray, List.nil_append, List.cons_append]
  gi_wp2_with fail
  refine ⟨trivial, ?_⟩
  refine (callsIn_wide.2 (valid_any s _ hs)).mono ?_
  rintro e w1 ⟨rfl, hg1⟩
  rw [h.out]
  gi_wp2_with fail
  refine ⟨trivial, ?_⟩
  refine (callsIn_wide.2 (runes_any s _)).mono ?_
  rintro e w2 ⟨rfl, rfl⟩
  gi_wp2_with fail
  have bR : Boxed (w1.alloc (.cells #[.string s] 9)) w.heap.size 4 (.bool false) := by
    have b := Boxed.new w 4 (.bool false)
    have b1 : Boxed w1 w.heap.size 4 (.bool false) := (Below.block hg1 w.heap.size (by simp)).trans b
    exact b1.alloc _
  have bS := Boxed.new w1 9 (.string s)
  have hsz := hg1.size
  simp only [World.size_alloc] at hsz
  have hB0 : Below w.heap.size w (w1.alloc (.cells #[.string s] 9)) := (((Gr.refl w).alloc _).trans hg1).alloc _
  have hseq := runes_stops (n - 1) (by omega) w1.heap.size s hs _ bS
  rw [hA.out] at hseq
  refine wpIn_rangeFunc_ownG rfl h1 (gf := 43) (lb := #[.pointer (some ⟨w1.heap.size, 0, none⟩)]) rfl trivial (enters_of Tryd.func43 (by kernel_rfl) rfl)
    hseq keepsBlock_t (keepsBlock_b (by simp)) (Below.refl _ _) (fun _ => rfl)
    (fun pre W => ((∀ p ∈ pre, ctlB p.2 = false) ∧ Boxed W w.heap.size 4 (.bool false)) ∧ Below w.heap.size w W)
    (fun c pre W => ((c = .ret ∧ ∃ p ∈ pre, ctlB p.2 = true) ∧ Boxed W w.heap.size 4 (.bool false)) ∧ Below w.heap.size w W)
    (OwnFrom.and (OwnFrom.and (fun _ _ _ _ hs _ _ => hs) (Own.from (boxed_own w.heap.size 4 (fun _ : List (Nat × Int) => .bool false)) _)) (ownFrom_below (Nat.le_refl _) (by simp; omega)))
    (fun c => OwnFrom.and (OwnFrom.and (fun _ _ _ _ hs _ _ => hs) (Own.from (boxed_own w.heap.size 4 (fun _ : List (Nat × Int) => .bool false)) _)) (ownFrom_below (Nat.le_refl _) (by simp; omega)))
    ⟨⟨(fun _ h => by cases h), bR⟩, hB0⟩
    (fun x => { tmps := #[.string s, undef, .pointer (some ⟨w.heap.size, 0, none⟩), undef, .int .i32 x.2, .string s, .bool true, .bool false, .string s, .func (.func 43) #[] #[.pointer (some ⟨w1.heap.size, 0, none⟩)], .int .i64 (x.1 : Int), .int .i32 x.2, undef, undef], defers := [] }) ?assign ?body ?done ?stop
  case assign =>
    intro l x W K hK
    gi_wp2
    exact hK
  case body =>
    rintro l pre x W ⟨⟨hp, hbx⟩, hB⟩ _
    have hc := hbx.cell
    have hf := hbx.frozen
    have HB := Lib.hid hbx
    have HP := Lib.hid hp
    clear hbx hp
    gi_wp2_with fail
    refine ⟨trivial, (fun _ => by omega), ?_⟩
    refine (CallsIn.inRound l (callsIn_wide.2 (isControl_any x.2 _))).mono ?_
    rintro e w' ⟨rfl, rfl⟩
    cases hx : ctlB x.2 with
    | true =>
      have HX := Lib.hid hx
      clear hx
      gi_wp2
      exact ⟨(KeepsOthers.setCell _ _ _).from _, ⟨⟨rfl, x, by simp, HX.out⟩, Boxed.set (.bool false) HB.out⟩, hB.setCell (p := ⟨w.heap.size, 0, none⟩) (Nat.le_refl _) _⟩
    | false =>
      have HX := Lib.hid hx
      clear hx
      gi_wp2
      exact ⟨KeepsFrom.refl _ _, rfl, ⟨fun p hp => (List.mem_append.1 hp).elim (HP.out p) (fun e => by simp at e; subst e; exact HX.out), HB.out⟩, hB⟩
  case done =>
    rintro D ys W hD rfl ⟨⟨hp, hbx⟩, hB⟩ hK
    have hc := hbx.cell
    have hf := hbx.frozen
    gi_wp2
    have hK' := (KeepsOthers.setCell W ⟨w.heap.size, 0, none⟩ (.bool true)).same D _ hK rfl
    refine ⟨by simp, .inl ⟨_, _, rfl, run_takeDeferred hK', ?_⟩⟩
    have hc5 := cell_kept (World.cell?_setCell_same' W ⟨w.heap.size, 0, none⟩ (.bool true) (by rw [hc]; rfl)) (grownBy_putObj' _ D (.deferred none)) (fun r e => by cases e; exact ⟨_, hK', rfl⟩)
    refine ⟨.bool true, ?_, ret_bool (List.all_eq_true.2 (fun x hx => by rw [hp x hx]; rfl)).symm, (hB.setCell (p := ⟨w.heap.size, 0, none⟩) (Nat.le_refl _) _).trans (belowK_b (w := w) (Nat.le_refl _) _ D _ _ (by simp at hD; omega) hK' rfl rfl)⟩
    simp [results, Tryd.f29, go_sem, hc5]
  case stop =>
    rintro D c pre W hD hpre ⟨⟨⟨rfl, x, hx, hx2⟩, hbx⟩, hB⟩ hK
    gi_wp2
    refine ⟨by simp, .inl ⟨_, _, rfl, run_takeDeferred hK, ?_⟩⟩
    have hc5 := cell_kept hbx.cell (grownBy_putObj' _ D (.deferred none)) (fun r e => by cases e; exact ⟨_, hK, rfl⟩)
    refine ⟨.bool false, ?_, ret_bool (Bool.eq_false_iff.2 (fun h => by have := List.all_eq_true.1 h x (hpre.subset hx); rw [hx2] at this; cases this)).symm, hB.trans (belowK_b (w := w) (Nat.le_refl _) W D _ _ (by simp at hD; omega) hK rfl rfl)⟩
    simp [results, Tryd.f29, go_sem, hc5]

theorem all_tok (l : List UInt8) : (tokOf 0 l).all (fun x => !ctlB x.2) = (runOf l).all fun r => !ctlB r := by
  have h : (tokOf 0 l).map Prod.snd = runOf l := by
    unfold tokOf; rw [List.map_snd_zip]; rw [len_run_off l 0]; exact Nat.le_refl _
  rw [← h, List.all_map]; rfl

/-- utf8.Printable. -/
theorem print_any (s : ByteArray) (w : World) (hs : s.size ≤ 140737488351232) :
    Calls Tryd.prog 29 #[.string s] w fun e w' => e = .returned (.bool (prB (bl s))) ∧ Gr w w' := by
  cases h : (errOf (bl s) == 0) with
  | true =>
    have e : prB (bl s) = (tokOf 0 (bl s)).all (fun x => !ctlB x.2) := by unfold prB; rw [h, all_tok]; rfl
    rw [e]
    exact callsIn_wide.1 (print_in s w hs 3 (by omega) h _ rfl)
  | false =>
    have e : prB (bl s) = false := by unfold prB; rw [h]; rfl
    rw [e]
    exact print_bad s w hs h
end Go.Proofs.YtalommgkigacpaaDoor

/- The contract of utf8.Offset. -/
import Derived.Test.YtalommgkigacpaaDoorCount
namespace Go.Proofs.YtalommgkigacpaaDoor
open Go.RowKit Go.Shelf
attribute [local go_sem] Oper.semAt_some

/-- The three cells that Offset makes first. -/
def offW (w : World) (i : Int) : World := ((w.alloc (.cells #[.int .i64 i] 3)).alloc (.cells #[.int .i64 0] 3)).alloc (.cells #[.int .i64 0] 26)
theorem offW_gr (w : World) (i : Int) : Gr w (offW w i) := (((Gr.refl w).alloc _).alloc _).alloc _
theorem offW_boxes (w : World) (i : Int) : Boxed (offW w i) w.heap.size 3 (.int .i64 i) ∧ Boxed (offW w i) (w.heap.size + 1) 3 (.int .i64 0) ∧ Boxed (offW w i) (w.heap.size + 1 + 1) 26 (.int .i64 0) := by
  refine ⟨((Boxed.new w 3 (.int .i64 i)).alloc _).alloc _, ?_, ?_⟩
  · have := (Boxed.new (w.alloc (.cells #[.int .i64 i] 3)) 3 (.int .i64 0)).alloc (.cells #[.int .i64 0] 26)
    simpa [offW] using this
  · have := Boxed.new ((w.alloc (.cells #[.int .i64 i] 3)).alloc (.cells #[.int .i64 0] 3)) 26 (.int .i64 0)
    simpa [offW] using this
theorem offW_size (w : World) (i : Int) : (offW w i).heap.size = w.heap.size + 3 := by simp [offW]
theorem boxed_gr {w w' : World} (hg : Gr w w') {B : Nat} {t : TypeId} {v : Value} (h : Boxed w B t v) : Boxed w' B t v := (Below.block hg B h.lt).trans h

set_option maxHeartbeats 800000 in
theorem off_early (s : ByteArray) (i : Int) (w : World) (hs : s.size ≤ 140737488351232) (E C : Int) (hE : Hid (errOf (bl s) = E)) (hC : Hid (cntZ (bl s) = C)) (X : Int)
    (h : ((E != 0) = true ∧ X = E) ∨ (E = 0 ∧ i < 0 ∧ X = 2) ∨ (E = 0 ∧ 0 ≤ i ∧ C < i ∧ X = 2)) :
    Calls Tryd.prog 34 #[.string s, .int .i64 i] w fun e w' => e = .returned (.tuple #[.int .i64 0, .int .i64 X]) ∧ Gr w w' := by
  have hc : ∀ w1 : World, Gr (offW w i) w1 → (w1.cell? ⟨w.heap.size, 0, none⟩ = some (.int .i64 i)) ∧ (w1.cell? ⟨w.heap.size + 1, 0, none⟩ = some (.int .i64 0) ∧ w1.frozen? ⟨w.heap.size + 1, 0, none⟩ = false) ∧ w1.cell? ⟨w.heap.size + 1 + 1, 0, none⟩ = some (.int .i64 0) ∧ w1.frozen? ⟨w.heap.size + 1 + 1, 0, none⟩ = false := by
    intro w1 hg
    obtain ⟨b0, b1, b2⟩ := offW_boxes w i
    exact ⟨(boxed_gr hg b0).cell, ⟨(boxed_gr hg b1).cell, (boxed_gr hg b1).frozen⟩, (boxed_gr hg b2).cell, (boxed_gr hg b2).frozen⟩
  have HC := Lib.hid hc
  have HG := Lib.hid (offW_gr w i)
  clear hc
  rcases h with ⟨h0, rfl⟩ | ⟨rfl, h1, rfl⟩ | ⟨rfl, h1, h2, rfl⟩
  all_goals
    go_enter Tryd.func34, Tryd.ntmps34
    go_wp2_with fail
    refine (count_any s _ hs).mono ?_
    rintro e w1 ⟨rfl, hg1⟩
    rw [hE.out, hC.out]
    obtain ⟨c0, ⟨c1, f1⟩, c2, f2⟩ := HC.out w1 hg1
    have hG := HG.out.trans hg1
    go_wp2_with fail
    refine bodyPost_ret (v := .tuple #[.int .i64 0, .int .i64 _]) (by simp [results, Tryd.results34, go_sem, c1, c2]) rfl ⟨rfl, ?_⟩
    exact (hG.setCell (p := ⟨w.heap.size + 1, 0, none⟩) (by simp) _).setCell (p := ⟨w.heap.size + 1 + 1, 0, none⟩) (by simp; omega) _

set_option maxRecDepth 100000 in
set_option maxHeartbeats 2000000 in
theorem off_in (s : ByteArray) (i : Int) (w : World) (hs : s.size ≤ 140737488351232) (h0 : 0 ≤ i) (n : Nat) (hn : 3 ≤ n) (hE : Hid (errOf (bl s) = 0)) (ALL : List (Nat × Int)) (hA : Hid (tokOf 0 (bl s) = ALL)) (hC : Hid (cntZ (bl s) = ALL.length)) (h2 : i ≤ (ALL.length : Int)) (R : Nat) (hR : Hid ((i.toNat < ALL.length → ∃ r, ALL[i.toNat]? = some (R, r)) ∧ (ALL.length ≤ i.toNat → R = s.size))) :
    CallsIn Fence.wide n Tryd.prog 34 #[.string s, .int .i64 i] w fun e w' => e = .returned (.tuple #[.int .i64 R, .int .i64 0]) ∧ Gr w w' := by
  have h1 : 1 ≤ n := by omega
  have hc : ∀ w1 : World, Gr (offW w i) w1 → Boxed w1 w.heap.size 3 (.int .i64 i) ∧ Boxed w1 (w.heap.size + 1) 3 (.int .i64 0) ∧ Boxed w1 (w.heap.size + 1 + 1) 26 (.int .i64 0) := by
    intro w1 hg
    obtain ⟨b0, b1, b2⟩ := offW_boxes w i
    exact ⟨boxed_gr hg b0, boxed_gr hg b1, boxed_gr hg b2⟩
  have HC := Lib.hid hc
  have HG := Lib.hid (offW_gr w i)
  clear hc
  refine callsIn_of_wp_marks Tryd.func34 rfl trivial ?_ rfl
  simp only [Tryd.ntmps34, List.size_toArray, List.length_cons, List.length_nil, Nat.reduceAdd, Nat.reduceSub, Array.replicate_succ, Array.replicate_zero, List.push_toArray, List.append_toArray, List.nil_append, List.cons_append]
  gi_wp2_with fail
  refine ⟨trivial, ?_⟩
  refine (callsIn_wide.2 (count_any s _ hs)).mono ?_
  rintro e w1 ⟨rfl, hg1⟩
  rw [hE.out, hC.out]
  obtain ⟨b0, b1, b2⟩ := HC.out w1 hg1
  have hG := HG.out.trans hg1
  have hsz := Gr.size hg1
  simp only [World.size_alloc] at hsz
  have c0 := b0.cell
  have B0 := Lib.hid b0; have B1 := Lib.hid b1; have B2 := Lib.hid b2
  clear b0 b1 b2
  gi_wp2_with fail
  refine ⟨trivial, ?_⟩
  refine (callsIn_wide.2 (runes_any s _)).mono ?_
  rintro e w2 ⟨rfl, rfl⟩
  gi_wp2_with fail
  have bS := Boxed.new w1 9 (.string s)
  have hB0 : Below w.heap.size w (w1.alloc (.cells #[.string s] 9)) := hG.alloc _
  have hseq := runes_stops (n - 1) (by omega) w1.heap.size s hs _ bS
  rw [hA.out] at hseq
  have hAl : ALL.length ≤ s.size := by
    rw [← hA.out, tokOf_len, ← bl_length]; exact len_run _
  have HR := Lib.hid hR
  refine wpIn_rangeFunc_ownG rfl h1 (gf := 43) (lb := #[.pointer (some ⟨w1.heap.size, 0, none⟩)]) rfl trivial (enters_of Tryd.func43 (by kernel_rfl) rfl)
    hseq keepsBlock_t (keepsBlock_b (by simp)) (Below.refl _ _) (fun _ => rfl)
    (fun pre W => ((pre.length : Int) ≤ i ∧ Boxed W w.heap.size 3 (.int .i64 (i - pre.length)) ∧ Boxed W (w.heap.size + 1) 3 (.int .i64 0) ∧ Boxed W (w.heap.size + 1 + 1) 26 (.int .i64 0)) ∧ Below w.heap.size w W)
    (fun c pre W => ((c = Code.ret ∧ ∃ (p : List (Nat × Int)) (x : Nat × Int), pre = p ++ [x] ∧ (p.length : Int) = i) ∧ Boxed W (w.heap.size + 1) 3 (.int .i64 ((pre.getLastD (0, 0)).1 : Nat)) ∧ Boxed W (w.heap.size + 1 + 1) 26 (.int .i64 0)) ∧ Below w.heap.size w W)
    (OwnFrom.and (OwnFrom.and (ownFrom_pure _ (fun pre : List (Nat × Int) => (pre.length : Int) ≤ i)) (OwnFrom.and (Own.from (boxed_own w.heap.size 3 (fun pre : List (Nat × Int) => .int .i64 (i - pre.length))) _) (OwnFrom.and (Own.from (boxed_own (w.heap.size + 1) 3 (fun _ : List (Nat × Int) => .int .i64 0)) _) (Own.from (boxed_own (w.heap.size + 1 + 1) 26 (fun _ : List (Nat × Int) => .int .i64 0)) _)))) (ownFrom_below (Nat.le_refl _) (by simp; omega)))
    (fun c => OwnFrom.and (OwnFrom.and (ownFrom_pure _ (fun pre : List (Nat × Int) => c = Code.ret ∧ ∃ (p : List (Nat × Int)) (x : Nat × Int), pre = p ++ [x] ∧ (p.length : Int) = i)) (OwnFrom.and (Own.from (boxed_own (w.heap.size + 1) 3 (fun pre : List (Nat × Int) => .int .i64 ((pre.getLastD (0, 0)).1 : Nat))) _) (Own.from (boxed_own (w.heap.size + 1 + 1) 26 (fun _ : List (Nat × Int) => .int .i64 0)) _))) (ownFrom_below (Nat.le_refl _) (by simp; omega)))
    ⟨⟨by simpa using h0, by simpa using B0.out.alloc _, B1.out.alloc _, B2.out.alloc _⟩, hB0⟩
    (fun x => { tmps := #[.string s, .int .i64 i, undef, .pointer (some ⟨w.heap.size, 0, none⟩), .pointer (some ⟨w.heap.size + 1, 0, none⟩), .pointer (some ⟨w.heap.size + 1 + 1, 0, none⟩), .int .i64 ALL.length, .int .i64 0, .int .i64 (x.1 : Int), .tuple #[.int .i64 ALL.length, .int .i64 0], .string s, .tuple #[.int .i64 ALL.length, .int .i64 0], .int .i64 ALL.length, .int .i64 0, .int .i64 0, .bool false, undef, .int .i64 i, .bool (decide (i < 0)), .bool (decide (i < 0)), .int .i64 i, .int .i64 ALL.length, .bool (decide ((ALL.length : Int) < i)), .bool (decide (i < 0) || decide ((ALL.length : Int) < i)), .string s, .func (.func 43) #[] #[.pointer (some ⟨w1.heap.size, 0, none⟩)], .int .i64 (x.1 : Int), .int .i32 x.2, undef, undef, undef, undef, undef, undef, undef], defers := [] }) ?assign ?body ?done ?stop
  case assign =>
    intro l x W K hK
    gi_wp2
    exact hK
  case body =>
    rintro l pre x W ⟨⟨hle, hb0, hb1, hb2⟩, hB⟩ hlt
    have k0 := hb0.cell
    have g0 := hb0.frozen
    have k1 := hb1.cell
    have g1 := hb1.frozen
    have k2 := hb2.cell
    have g2 := hb2.frozen
    have H0 := Lib.hid hb0; have H1 := Lib.hid hb1; have H2 := Lib.hid hb2
    clear hb0 hb1 hb2
    by_cases hx : i = (pre.length : Int)
    · have hz : ((i - (pre.length : Int)) == 0) = true := by simp; omega
      have HX := Lib.hid hx
      clear hx
      gi_wp2
      refine ⟨((KeepsOthers.setCell _ _ _).trans (KeepsOthers.setCell _ _ _)).from _, ⟨⟨rfl, pre, x, rfl, HX.out.symm⟩, ?_, ?_⟩, ?_⟩
      · have := Boxed.other (Boxed.set (.int .i64 (x.1 : Int)) H1.out) (B' := w.heap.size + 1 + 1) (by omega) (.int .i64 0)
        simpa using this
      · exact Boxed.set (.int .i64 0) (H2.out.other (by omega) _)
      · exact (hB.setCell (p := ⟨w.heap.size + 1, 0, none⟩) (by simp) _).setCell (p := ⟨w.heap.size + 1 + 1, 0, none⟩) (by simp; omega) _
    · have hz : ((i - (pre.length : Int)) == 0) = false := by simp; omega
      gi_wp2
      refine ⟨(KeepsOthers.setCell _ _ _).from _, Below.heap_setCell W ⟨w.heap.size, 0, none⟩ _ w1.heap.size (by simp; omega), ⟨by simp; omega, ?_, H1.out.other (by omega) _, H2.out.other (by omega) _⟩, hB.setCell (p := ⟨w.heap.size, 0, none⟩) (Nat.le_refl _) _⟩
      have := Boxed.set (.int .i64 (i - (pre.length : Int) - 1)) H0.out
      rw [show i - ((pre ++ [x]).length : Int) = i - (pre.length : Int) - 1 by simp; omega]
      exact this
  case done =>
    rintro D ys W hD rfl ⟨⟨hle, _, hb1, hb2⟩, hB⟩ hK
    have k1 := hb1.cell
    have g1 := hb1.frozen
    have k2 := hb2.cell
    have g2 := hb2.frozen
    have e1 : Hid (R = s.size) := HR.out.2 (by omega)
    have H1 := Lib.hid hb1; have H2 := Lib.hid hb2
    clear hb1 hb2
    gi_wp2
    have hK1 := (KeepsOthers.setCell W ⟨w.heap.size + 1, 0, none⟩ (.int .i64 s.size)).same D _ hK rfl
    have hK' := (KeepsOthers.setCell (W.setCell ⟨w.heap.size + 1, 0, none⟩ (.int .i64 s.size)) ⟨w.heap.size + 1 + 1, 0, none⟩ (.int .i64 0)).same D _ hK1 rfl
    refine ⟨by simp, .inl ⟨_, _, rfl, run_takeDeferred hK', ?_⟩⟩
    have q1 := (Boxed.other (Boxed.set (.int .i64 (s.size : Int)) H1.out) (B' := w.heap.size + 1 + 1) (by omega) (.int .i64 0)).cell
    have q2 := (Boxed.set (.int .i64 0) (H2.out.other (B' := w.heap.size + 1) (by omega) (.int .i64 (s.size : Int)))).cell
    have hc5 := cell_kept q1 (grownBy_putObj' _ D (.deferred none)) (fun r e => by cases e; exact ⟨_, hK', rfl⟩)
    have hc6 := cell_kept q2 (grownBy_putObj' _ D (.deferred none)) (fun r e => by cases e; exact ⟨_, hK', rfl⟩)
    refine ⟨.tuple #[.int .i64 s.size, .int .i64 0], ?_, by rw [e1.out], ((hB.setCell (p := ⟨w.heap.size + 1, 0, none⟩) (by simp) _).setCell (p := ⟨w.heap.size + 1 + 1, 0, none⟩) (by simp; omega) _).trans (belowK_b (w := w) (Nat.le_refl _) _ D _ _ (by simp at hD; omega) hK' rfl rfl)⟩
    simp [results, Tryd.f34, go_sem, hc5, hc6]
  case stop =>
    rintro D c pre W hD hpre ⟨⟨⟨rfl, p, x, rfl, hp⟩, hb1, hb2⟩, hB⟩ hK
    have e1 : Hid (((p ++ [x]).getLastD (0, 0)).1 = R) := by
      obtain ⟨r, hr⟩ := hpre
      have hl : i.toNat < ALL.length := by rw [← hr]; simp; omega
      obtain ⟨q, hq⟩ := HR.out.1 hl
      have hi : i.toNat = p.length := by omega
      rw [← hr, hi] at hq
      simp at hq
      show _ = _
      simp [hq]
    gi_wp2
    refine ⟨by simp, .inl ⟨_, _, rfl, run_takeDeferred hK, ?_⟩⟩
    have hc5 := cell_kept hb1.cell (grownBy_putObj' _ D (.deferred none)) (fun r e => by cases e; exact ⟨_, hK, rfl⟩)
    have hc6 := cell_kept hb2.cell (grownBy_putObj' _ D (.deferred none)) (fun r e => by cases e; exact ⟨_, hK, rfl⟩)
    rw [e1.out] at hc5
    refine ⟨.tuple #[.int .i64 R, .int .i64 0], ?_, rfl, hB.trans (belowK_b (w := w) (Nat.le_refl _) W D _ _ (by simp at hD; omega) hK rfl rfl)⟩
    simp [results, Tryd.f34, go_sem, hc5, hc6]

/-- What Offset returns, and its error. -/
def ofE (l : List UInt8) (i : Int) : Int := if errOf l = 0 then (if 0 ≤ i ∧ i ≤ (runOf l).length then 0 else 2) else errOf l
def ofR (l : List UInt8) (i : Int) : Nat := if errOf l = 0 ∧ 0 ≤ i ∧ i ≤ (runOf l).length then (if i.toNat < (offOf 0 l).length then (offOf 0 l).getD i.toNat 0 else l.length) else 0
/-- utf8.Offset. -/
theorem off_any (s : ByteArray) (i : Int) (w : World) (hs : s.size ≤ 140737488351232) :
    Calls Tryd.prog 34 #[.string s, .int .i64 i] w fun e w' => e = .returned (.tuple #[.int .i64 (ofR (bl s) i), .int .i64 (ofE (bl s) i)]) ∧ Gr w w' := by
  by_cases h : errOf (bl s) = 0
  · have hC : cntZ (bl s) = ((runOf (bl s)).length : Int) := by unfold cntZ; rw [if_pos h]
    by_cases h1 : 0 ≤ i ∧ i ≤ (runOf (bl s)).length
    · have e1 : ofE (bl s) i = 0 := by unfold ofE; rw [if_pos h, if_pos h1]
      have hl := tokOf_len 0 (bl s)
      rw [e1]
      refine callsIn_wide.1 (off_in s i w hs h1.1 3 (by omega) h _ rfl (by show _ = _; rw [hC, hl]) (by rw [hl]; exact h1.2) _ ?_)
      have hlo := len_run_off (bl s) 0
      refine ⟨fun hlt => ?_, fun hge => ?_⟩
      · have hlt2 : i.toNat < (offOf 0 (bl s)).length := by omega
        have e2 : ofR (bl s) i = (offOf 0 (bl s)).getD i.toNat 0 := by unfold ofR; rw [if_pos ⟨h, h1⟩, if_pos hlt2]
        refine ⟨(runOf (bl s)).getD i.toNat 0, ?_⟩
        rw [e2]
        unfold tokOf
        have hlt3 : i.toNat < (runOf (bl s)).length := by omega
        rw [List.getElem?_eq_getElem (by rw [List.length_zip]; omega), List.getElem_zip]
        simp [hlt2, hlt3]
      · have : ofR (bl s) i = (bl s).length := by unfold ofR; rw [if_pos ⟨h, h1⟩, if_neg (by omega)]
        rw [this, bl_length]
    · have e1 : ofE (bl s) i = 2 := by unfold ofE; rw [if_pos h, if_neg h1]
      have e2 : ofR (bl s) i = 0 := by unfold ofR; rw [if_neg (fun x => h1 x.2)]
      rw [e1, e2]
      by_cases h3 : 0 ≤ i
      · exact off_early s i w hs 0 _ h hC _ (.inr (.inr ⟨rfl, h3, by omega, rfl⟩))
      · exact off_early s i w hs 0 _ h hC _ (.inr (.inl ⟨rfl, by omega, rfl⟩))
  · have e1 : ofE (bl s) i = errOf (bl s) := by unfold ofE; rw [if_neg h]
    have e2 : ofR (bl s) i = 0 := by unfold ofR; rw [if_neg (fun x => h x.1)]
    rw [e1, e2]
    exact off_early s i w hs _ _ rfl rfl _ (.inl ⟨by simpa using h, rfl⟩)
end Go.Proofs.YtalommgkigacpaaDoor

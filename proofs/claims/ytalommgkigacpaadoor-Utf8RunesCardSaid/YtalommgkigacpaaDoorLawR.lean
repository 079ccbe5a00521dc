/- The walk of the law Utf8Runes: it returns true, and nothing that was there turns. -/
import Derived.Test.YtalommgkigacpaaDoorLawT
import Derived.Test.YtalommgkigacpaaDoorOffset
namespace Go.Proofs.YtalommgkigacpaaDoor
open Go.RowKit Go.Shelf
attribute [local go_sem] Oper.semAt_some

set_option maxRecDepth 100000 in
set_option maxHeartbeats 4000000 in
theorem utf8Runes_in (t : ByteArray) (b : Int) (s : ByteArray) (w : World) (hT : Tab w) (hs : s.size ≤ 140737488351232) (ht : Hid (shortB s 300 = t)) (hz : t.size ≤ 300) (h0 : 0 ≤ b) (h2 : b ≤ 255) (n : Nat) (hn : 3 ≤ n) (ALL : List (Nat × Int)) (hA : Hid (tokOf 0 (bl t) = ALL))
    (rs : List Int) (os : List Nat) (hr : Hid (runOf (bl t) = rs)) (ho : Hid (offOf 0 (bl t) = os)) (hl1 : rs.length = ALL.length) (hl2 : os.length = ALL.length) (hal : ∀ k, k < ALL.length → ∃ o r, ALL[k]? = some (o, r) ∧ os[k]? = some o ∧ rs[k]? = some r ∧ 0 ≤ r ∧ r ≤ 1114111) (hle : ALL.length ≤ 300) :
    CallsIn Fence.wide n Tryd.prog 7 #[.string s, .int .u8 b] w fun e w' => e = .returned (.bool true) ∧ Gr w w' := by
  have h1 : 1 ≤ n := by omega
  have T0 := Lib.hid hT
  have HL1 := Lib.hid hl1; have HL2 := Lib.hid hl2; have HAL := Lib.hid hal
  clear hT hl1 hl2 hal
  refine callsIn_of_wp_marks Tryd.func7 rfl trivial ?_ rfl
  simp only [Tryd.ntmps7, List.size_toArray, List.length_cons, List.length_nil, Nat.reduceAdd, Nat.reduceSub, Array.replicate_succ, Array.replicate_zero, List.push_toArray, List.append_toArray, List.nil_append, List.cons_append]
  gi_wp2_with fail
  refine ⟨trivial, ?_⟩
  refine (callsIn_wide.2 (short_any s 300 _ hs (by decide))).mono ?_
  rintro e w' ⟨rfl, rfl⟩
  rw [ht.out]
  have T0' := Lib.hid (T0.out.gr ((Gr.refl w).alloc (.cells #[.bool false] 4)))
  gi_wp2_with fail
  refine ⟨trivial, ?_⟩
  refine (callsIn_wide.2 (known_any _ T0'.out)).mono ?_
  rintro e w1 ⟨rfl, hg1⟩
  gi_wp2_with fail
  refine ⟨trivial, ?_⟩
  refine (callsIn_wide.2 (all_any t _ (by omega))).mono ?_
  rintro e w2 ⟨u, v, rfl, hu, hv, hg2⟩
  obtain ⟨a, cap, rfl, hcl⟩ := hu.form
  obtain ⟨a', cap', rfl, hcl'⟩ := hv.form
  rw [natsZ_len]
  rw [hr.out] at hcl ⊢
  rw [ho.out] at hcl' ⊢
  have HCL := Lib.hid hcl; have HCL' := Lib.hid hcl'
  clear hcl hcl' hu hv
  rw [HL1.out, HL2.out]
  generalize atOf 0 (bl t) = A
  generalize errOf (bl t) = E
  gi_wp2_with fail
  refine ⟨trivial, ?_⟩
  refine (callsIn_wide.2 (runes_any t _)).mono ?_
  rintro e w3 ⟨rfl, rfl⟩
  gi_wp2_with fail
  have hsz1 := Gr.size hg1
  have hsz2 := Gr.size hg2
  simp only [World.size_alloc] at hsz1
  have bR : Boxed w2 w.heap.size 4 (.bool false) := boxed_gr hg2 (boxed_gr hg1 (Boxed.new w 4 (.bool false)))
  have hw2 : Gr w w2 := (((Gr.refl w).alloc _).trans hg1).trans hg2
  obtain ⟨WL, hWL⟩ : ∃ WL : World, WL = ((((w2.alloc (.cells #[.slice a ALL.length cap] 23)).alloc (.cells #[.slice a' ALL.length cap'] 23)).alloc (.cells #[.int .i64 (b + 1)] 3)).alloc (.cells #[.int .i64 0] 3)).alloc (.cells #[.string t] 9) := ⟨_, rfl⟩
  have hWs : WL.heap.size = w2.heap.size + 5 := by rw [hWL]; simp
  have bS : Boxed WL (w2.heap.size + 1 + 1 + 1 + 1) 9 (.string t) := by
    rw [hWL]; have := Boxed.new ((((w2.alloc (.cells #[.slice a ALL.length cap] 23)).alloc (.cells #[.slice a' ALL.length cap'] 23)).alloc (.cells #[.int .i64 (b + 1)] 3)).alloc (.cells #[.int .i64 0] 3)) 9 (.string t); simpa using this
  have b5 : Boxed WL w2.heap.size 23 (.slice a ALL.length cap) := by rw [hWL]; exact ((((Boxed.new w2 23 _).alloc _).alloc _).alloc _).alloc _
  have b6 : Boxed WL (w2.heap.size + 1) 23 (.slice a' ALL.length cap') := by
    rw [hWL]; have := (((Boxed.new (w2.alloc (.cells #[.slice a ALL.length cap] 23)) 23 (.slice a' ALL.length cap')).alloc (.cells #[.int .i64 (b + 1)] 3)).alloc (.cells #[.int .i64 0] 3)).alloc (.cells #[.string t] 9); simpa using this
  have b9 : Boxed WL (w2.heap.size + 1 + 1) 3 (.int .i64 (b + 1)) := by
    rw [hWL]; have := ((Boxed.new ((w2.alloc (.cells #[.slice a ALL.length cap] 23)).alloc (.cells #[.slice a' ALL.length cap'] 23)) 3 (.int .i64 (b + 1))).alloc (.cells #[.int .i64 0] 3)).alloc (.cells #[.string t] 9); simpa using this
  have b10 : Boxed WL (w2.heap.size + 1 + 1 + 1) 3 (.int .i64 (([] : List (Nat × Int)).length : Nat)) := by
    rw [hWL]; have := (Boxed.new (((w2.alloc (.cells #[.slice a ALL.length cap] 23)).alloc (.cells #[.slice a' ALL.length cap'] 23)).alloc (.cells #[.int .i64 (b + 1)] 3)) 3 (.int .i64 0)).alloc (.cells #[.string t] 9); simpa using this
  have hB2 : Below w2.heap.size w2 WL := by rw [hWL]; exact ((((((Gr.refl w2).alloc _).alloc _).alloc _).alloc _).alloc _ : Gr w2 _)
  rw [← hWL]
  clear hWL
  have hseq := runes_stops (n - 1) (by omega) (w2.heap.size + 1 + 1 + 1 + 1) t (by omega) _ bS
  rw [hA.out] at hseq
  refine wpIn_rangeFunc_ownG rfl h1 (gf := 43) (lb := #[.pointer (some ⟨w2.heap.size + 1 + 1 + 1 + 1, 0, none⟩)]) rfl trivial (enters_of Tryd.func43 (by kernel_rfl) rfl)
    hseq keepsBlock_t (keepsBlock_b bS.lt) (Below.refl _ _) (fun _ => rfl)
    (fun pre W => ((pre.length : Int) < b + 1 ∧ Boxed W w2.heap.size 23 (.slice a ALL.length cap) ∧ Boxed W (w2.heap.size + 1) 23 (.slice a' ALL.length cap') ∧ Boxed W (w2.heap.size + 1 + 1) 3 (.int .i64 (b + 1)) ∧ Boxed W (w2.heap.size + 1 + 1 + 1) 3 (.int .i64 (pre.length : Nat))) ∧ Below w2.heap.size w2 W)
    (fun c pre W => ((c = Code.ret ∧ ∃ (p : List (Nat × Int)) (x : Nat × Int), pre = p ++ [x] ∧ ALL[p.length]? ≠ some x) ∧ True) ∨ (((c = Code.exit 0 ∧ (pre.length : Int) = b + 1) ∧ Boxed W w2.heap.size 23 (.slice a ALL.length cap) ∧ Boxed W (w2.heap.size + 1 + 1) 3 (.int .i64 (b + 1)) ∧ Boxed W (w2.heap.size + 1 + 1 + 1) 3 (.int .i64 (pre.length : Nat))) ∧ Below w2.heap.size w2 W))
    (OwnFrom.and (OwnFrom.and (ownFrom_pure _ (fun pre : List (Nat × Int) => (pre.length : Int) < b + 1)) (OwnFrom.and (Own.from (boxed_own w2.heap.size 23 (fun _ : List (Nat × Int) => .slice a ALL.length cap)) _) (OwnFrom.and (Own.from (boxed_own (w2.heap.size + 1) 23 (fun _ : List (Nat × Int) => .slice a' ALL.length cap')) _) (OwnFrom.and (Own.from (boxed_own (w2.heap.size + 1 + 1) 3 (fun _ : List (Nat × Int) => .int .i64 (b + 1))) _) (Own.from (boxed_own (w2.heap.size + 1 + 1 + 1) 3 (fun pre : List (Nat × Int) => .int .i64 (pre.length : Nat))) _))))) (ownFrom_below (Nat.le_refl _) (by omega)))
    (fun c => by
      intro p W W' row hs hg hr
      rcases hs with hs | hs
      · exact .inl hs
      · right
        exact (OwnFrom.and (OwnFrom.and (ownFrom_pure _ (fun pre : List (Nat × Int) => c = Code.exit 0 ∧ (pre.length : Int) = b + 1)) (OwnFrom.and (Own.from (boxed_own w2.heap.size 23 (fun _ : List (Nat × Int) => .slice a ALL.length cap)) _) (OwnFrom.and (Own.from (boxed_own (w2.heap.size + 1 + 1) 3 (fun _ : List (Nat × Int) => .int .i64 (b + 1))) _) (Own.from (boxed_own (w2.heap.size + 1 + 1 + 1) 3 (fun pre : List (Nat × Int) => .int .i64 (pre.length : Nat))) _)))) (ownFrom_below (Nat.le_refl _) (by omega))) p W W' row hs hg hr)
    ⟨⟨by simp; omega, b5, b6, b9, b10⟩, hB2⟩
    (fun x => { tmps := #[.string t, .int .u8 b, undef, undef, .pointer (some ⟨w.heap.size, 0, none⟩), .pointer (some ⟨w2.heap.size, 0, none⟩), .pointer (some ⟨w2.heap.size + 1, 0, none⟩), .int .i64 A, .int .i64 E, .pointer (some ⟨w2.heap.size + 1 + 1, 0, none⟩), .pointer (some ⟨w2.heap.size + 1 + 1 + 1, 0, none⟩), .int .i64 (x.1 : Int), .int .i32 x.2, .string s, .string t, .bool true, .bool false, .tuple #[.slice a ALL.length cap, .slice a' ALL.length cap', .int .i64 A, .int .i64 E], .string t, .tuple #[.slice a ALL.length cap, .slice a' ALL.length cap', .int .i64 A, .int .i64 E], .slice a ALL.length cap, .slice a' ALL.length cap', .int .i64 A, .int .i64 E, .int .u8 b, .int .i64 b, .int .i64 (b + 1), .string t, .func (.func 43) #[] #[.pointer (some ⟨w2.heap.size + 1 + 1 + 1 + 1, 0, none⟩)], .int .i64 (x.1 : Int), .int .i32 x.2, undef, undef, undef, undef, undef, undef, undef, undef, undef, undef, undef, undef, undef, undef, undef, undef, undef, undef, undef, undef, undef, undef, undef, undef, undef, undef, undef, undef, undef, undef, undef, undef, undef, undef, undef, undef, undef], defers := [] }) ?assign ?body ?done ?stop
  case assign =>
    intro l x W K hK
    gi_wp2
    exact hK
  case body =>
    rintro l pre x W ⟨⟨hlt2, k5, k6, k9, k10⟩, hB⟩ hlt
    obtain ⟨o, r, q1, q2, q3, q4, q5⟩ := HAL.out pre.length hlt
    obtain ⟨g, rfl, hgl, hc⟩ := HCL.out pre.length (by rw [HL1.out]; exact hlt)
    obtain ⟨g', rfl, hgl', hc'⟩ := HCL'.out pre.length (by rw [natsZ_len, HL2.out]; exact hlt)
    have er : rs[pre.length]'(by rw [HL1.out]; exact hlt) = r := by rw [List.getElem?_eq_getElem (by rw [HL1.out]; exact hlt)] at q3; simpa using q3
    have eo : os[pre.length]'(by rw [HL2.out]; exact hlt) = o := by rw [List.getElem?_eq_getElem (by rw [HL2.out]; exact hlt)] at q2; simpa using q2
    rw [er] at hc
    rw [natsZ_get, eo] at hc'
    have d1 := (hB.cell (p := ⟨g, pre.length, none⟩) hgl).trans hc
    have d2 := (hB.cell (p := ⟨g', pre.length, none⟩) hgl').trans hc'
    have d5 := k5.cell; have d6 := k6.cell; have d9 := k9.cell; have d10 := k10.cell; have f10 := k10.frozen
    have bw : Boxed W w.heap.size 4 (.bool false) := (hB.block w.heap.size (by omega)).trans bR
    have d4 := bw.cell; have f4 := bw.frozen
    have K5 := Lib.hid k5; have K6 := Lib.hid k6; have K9 := Lib.hid k9; have K10 := Lib.hid k10; have Q1 := Lib.hid q1
    clear k5 k6 k9 k10 hc hc' er eo q1 q2 q3 bw HAL HCL HCL'
    have t1 : decide (b + 1 ≤ (pre.length : Int)) = false := by simp; omega
    have t2 : decide (ALL.length ≤ pre.length) = false := by simp; omega
    by_cases m1 : (x.1 : Int) = (o : Int)
    · have M1 : ((x.1 : Int) != (o : Int)) = false := by simp; omega
      cases m2 : (wrap64 x.2 != r) with
      | true =>
        have hne : Hid (ALL[pre.length]? ≠ some x) := by
          intro e
          rw [Q1.out] at e
          have : x.2 = r := by cases e; rfl
          rw [this, IntWalk.wrap64_in r ⟨by omega, by omega⟩] at m2
          simp at m2
        have M2 := Lib.hid m2
        clear m1
        gi_wp2
        exact ⟨(KeepsOthers.setCell _ _ _).from _, .inl ⟨⟨rfl, pre, x, rfl, hne.out⟩, trivial⟩⟩
      | false =>
        clear m1
        by_cases m3 : (pre.length : Int) = b
        · have M3 : ((pre.length : Int) + 1 == b + 1) = true := by simp; omega
          have H3 := Lib.hid m3
          clear m3
          gi_wp2
          refine ⟨(KeepsOthers.setCell _ _ _).from _, .inr ⟨⟨⟨rfl, by simp; have := H3.out; omega⟩, K5.out.other (by omega) _, K9.out.other (by omega) _, ?_⟩, hB.setCell (p := ⟨w2.heap.size + 1 + 1 + 1, 0, none⟩) (by simp; omega) _⟩⟩
          have := Boxed.set (.int .i64 ((pre.length : Int) + 1)) K10.out
          simpa using this
        · have M3 : ((pre.length : Int) + 1 == b + 1) = false := by simp; omega
          have H3 := Lib.hid m3
          clear m3
          gi_wp2
          refine ⟨(KeepsOthers.setCell _ _ _).from _, Below.heap_setCell W ⟨w2.heap.size + 1 + 1 + 1, 0, none⟩ _ (w2.heap.size + 1 + 1 + 1 + 1) (by simp), ⟨by simp; have := H3.out; omega, K5.out.other (by omega) _, K6.out.other (by omega) _, K9.out.other (by omega) _, ?_⟩, hB.setCell (p := ⟨w2.heap.size + 1 + 1 + 1, 0, none⟩) (by simp; omega) _⟩
          have := Boxed.set (.int .i64 ((pre.length : Int) + 1)) K10.out
          simpa using this
    · have M1 : ((x.1 : Int) != (o : Int)) = true := by simp; omega
      have hne : Hid (ALL[pre.length]? ≠ some x) := by
        intro e
        rw [Q1.out] at e
        exact m1 (by cases e; rfl)
      clear m1
      gi_wp2
      exact ⟨(KeepsOthers.setCell _ _ _).from _, .inl ⟨⟨rfl, pre, x, rfl, hne.out⟩, trivial⟩⟩
  case done =>
    rintro D ys W hD rfl ⟨⟨hlt2, k5, k6, k9, k10⟩, hB⟩ hK
    have d5 := k5.cell; have d9 := k9.cell; have d10 := k10.cell
    have bw : Boxed W w.heap.size 4 (.bool false) := (hB.block w.heap.size (by omega)).trans bR
    have d4 := bw.cell; have f4 := bw.frozen
    have BW := Lib.hid bw
    clear k5 k9 k10 bw
    have hmin : min (b + 1) (ys.length : Int) = (ys.length : Int) := by omega
    gi_wp2
    have hK' := (KeepsOthers.setCell W ⟨w.heap.size, 0, none⟩ (.bool true)).same D _ hK rfl
    refine ⟨by simp, .inl ⟨_, _, rfl, run_takeDeferred hK', ?_⟩⟩
    have hc5 := cell_kept (Boxed.set (.bool true) BW.out).cell (grownBy_putObj' _ D (.deferred none)) (fun r e => by cases e; exact ⟨_, hK', rfl⟩)
    refine ⟨.bool true, ?_, rfl, ?_⟩
    · simp [results, Tryd.f7, go_sem, hc5]
    · have hBw : Gr w W := hw2.trans hB
      exact (hBw.setCell (p := ⟨w.heap.size, 0, none⟩) (Nat.le_refl _) _).trans' (belowK_b (w := w) (Nat.le_refl _) _ D _ _ (by omega) hK' rfl rfl)
  case stop =>
    rintro D c pre W hD hpre hx hK
    rcases hx with ⟨⟨_, p, x, rfl, hne⟩, _⟩ | ⟨⟨⟨rfl, hlb⟩, k5, k9, k10⟩, hB⟩
    · exfalso
      obtain ⟨r, hr⟩ := hpre
      apply hne
      rw [← hr]; simp
    have hpl : pre.length ≤ ALL.length := hpre.length_le
    have HLB := Lib.hid hlb
    have hlb1 : (pre.length : Int) ≤ b + 1 := by omega
    have hlb2 : b + 1 ≤ (pre.length : Int) := by omega
    clear hlb
    have d5 := k5.cell; have d9 := k9.cell; have d10 := k10.cell
    have bw : Boxed W w.heap.size 4 (.bool false) := (hB.block w.heap.size (by omega)).trans bR
    have d4 := bw.cell; have f4 := bw.frozen
    have BW := Lib.hid bw
    clear k5 k9 k10 bw
    have hmin : min (b + 1) (ALL.length : Int) = (pre.length : Int) := by omega
    gi_wp2
    have hK' := (KeepsOthers.setCell W ⟨w.heap.size, 0, none⟩ (.bool true)).same D _ hK rfl
    refine ⟨by simp, .inl ⟨_, _, rfl, run_takeDeferred hK', ?_⟩⟩
    have hc5 := cell_kept (Boxed.set (.bool true) BW.out).cell (grownBy_putObj' _ D (.deferred none)) (fun r e => by cases e; exact ⟨_, hK', rfl⟩)
    refine ⟨.bool true, ?_, rfl, ?_⟩
    · simp [results, Tryd.f7, go_sem, hc5]
    · have hBw : Gr w W := hw2.trans hB
      exact (hBw.setCell (p := ⟨w.heap.size, 0, none⟩) (Nat.le_refl _) _).trans' (belowK_b (w := w) (Nat.le_refl _) _ D _ _ (by omega) hK' rfl rfl)

theorem runOf_scal (l : List UInt8) : ∀ r ∈ runOf l, scal r := by
  refine scan_ind (P := fun l => ∀ r ∈ runOf l, scal r) ?_ ?_ ?_ l
  · intro r hr; rw [runOf_nil] at hr; cases hr
  · intro l _ h r hr; rw [runOf_bad l h] at hr; cases hr
  · intro l h ih r hr
    rw [runOf_good l h] at hr
    rcases List.mem_cons.1 hr with e | e
    · rw [e]; exact decR_scal l
    · exact ih r e

theorem utf8Runes_walk (s : ByteArray) (b : Int) (w : World) (hT : Tab w) (hs : s.size ≤ 140737488351232) (h0 : 0 ≤ b) (h2 : b ≤ 255) :
    Calls Tryd.prog 7 #[.string s, .int .u8 b] w fun e w' => e = .returned (.bool true) ∧ Gr w w' := by
  have hz : (shortB s 300).size ≤ 300 := by rw [shortB_size]; omega
  generalize ht : shortB s 300 = t at *
  have hlo := len_run_off (bl t) 0
  have hl3 := len_run (bl t)
  rw [bl_length] at hl3
  have hl := tokOf_len 0 (bl t)
  refine callsIn_wide.1 (utf8Runes_in t b s w hT hs ht hz h0 h2 3 (by omega) _ rfl _ _ rfl rfl hl.symm (by omega) ?_ (by omega))
  intro k hk
  have k1 : k < (offOf 0 (bl t)).length := by omega
  have k2 : k < (runOf (bl t)).length := by omega
  have hsc := runOf_scal (bl t) _ (List.getElem_mem k2)
  refine ⟨(offOf 0 (bl t))[k], (runOf (bl t))[k], ?_, List.getElem?_eq_getElem k1, List.getElem?_eq_getElem k2, hsc.1, hsc.2.1⟩
  unfold tokOf
  rw [List.getElem?_eq_getElem (by rw [List.length_zip]; omega), List.getElem_zip]
end Go.Proofs.YtalommgkigacpaaDoor

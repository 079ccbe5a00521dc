/- The law ControlEqual: for any two commands it returns true. -/
import Derived.Test.YtcdcmohccbhchaaGreatDoorKKnw
import Derived.Test.YtcdcmohccbhchaaGreatDoorKOwn
import Derived.Test.YtcdcmohccbhchaaGreatDoorKSam
namespace Go.Proofs.YtcdcmohccbhchaaGreatDoor
open Go.RowKit

/-- Two commands, each in a block. -/
def TwoC (W : World) (k : Nat) (a b : Cm) (va vb : Value) : Prop := W.heap[k]? = some (.cells (cmC a va).toArray 26 (0, 0)) ∧ W.heap[k + 1]? = some (.cells (cmC b vb).toArray 26 (0, 0))
theorem TwoC.gr {W W' : World} {k : Nat} {a b : Cm} {va vb : Value} (h : TwoC W k a b va vb) (hg : Gr W W') : TwoC W' k a b va vb :=
  ⟨(hg.block (Array.getElem?_eq_some_iff.1 h.1).1).trans h.1, (hg.block (Array.getElem?_eq_some_iff.1 h.2).1).trans h.2⟩
theorem TwoC.rows {W : World} {k : Nat} {a b : Cm} {va vb : Value} (h : TwoC W k a b va vb) :
    hasRow W ⟨k, 0, none⟩ 56 = true ∧ rowAt W ⟨k, 0, none⟩ 56 = cmC a va ∧ hasRow W ⟨k + 1, 0, none⟩ 56 = true ∧ rowAt W ⟨k + 1, 0, none⟩ 56 = cmC b vb :=
  ⟨hasRow_block h.1 0 56 (by rw [cmC_length]; decide), (rowAt_block h.1 0 56 (by rw [cmC_length]; decide)).trans (cm_whole a va), hasRow_block h.2 0 56 (by rw [cmC_length]; decide), (rowAt_block h.2 0 56 (by rw [cmC_length]; decide)).trans (cm_whole b vb)⟩
set_option maxRecDepth 100000 in
set_option maxHeartbeats 4000000 in
theorem wEqual (a b : Cm) (va vb : Value) (w : World) (hE : Env w) (ha : AutsAt w va a.mods) (hb : AutsAt w vb b.mods) :
    Calls Tryz.prog 8 #[.agg (cmC a va).toArray, .agg (cmC b vb).toArray] w fun e w' => e = .returned (.bool true) ∧ Gr w w' := by
  have g0 := ((Gr.refl w).alloc (.cells (cmC a va).toArray 26)).alloc (.cells (cmC b vb).toArray 26)
  have hK : TwoC ((w.alloc (.cells (cmC a va).toArray 26)).alloc (.cells (cmC b vb).toArray 26)) w.heap.size a b va vb := ⟨heap_alloc2_old w _ _, heap_alloc2_new w _ _⟩
  have HSA : Hid (∀ W, Gr w W → Calls Tryz.prog 13 #[.agg (cmC a va).toArray] W fun e w' => e = .returned (.bool (smallB a)) ∧ Gr W w') := fun W h => smallC a va W (ha.gr h)
  have HSB : Hid (∀ W, Gr w W → Calls Tryz.prog 13 #[.agg (cmC b vb).toArray] W fun e w' => e = .returned (.bool (smallB b)) ∧ Gr W w') := fun W h => smallC b vb W (hb.gr h)
  have HKN : Hid (∀ W, Gr w W → Calls Tryz.prog 12 #[] W fun e w' => e = .returned (.bool true) ∧ Gr W w') := fun W h => knownC W (hE.gr h)
  have HOA : Hid (smallB a = true → ∀ W, Gr w W → Calls Tryz.prog 15 #[.agg (cmC a va).toArray] W fun e w' => ∃ x n k, e = .returned (.agg (cmC a (.slice x n k)).toArray) ∧ AutsAt w' (.slice x n k) a.mods ∧ Gr W w') := fun hs W h => ownC a a.mods va W (ha.gr h) (Nat.le_trans (small_mods hs).1 (by decide))
  have HOB : Hid (smallB b = true → ∀ W, Gr w W → Calls Tryz.prog 15 #[.agg (cmC b vb).toArray] W fun e w' => ∃ x n k, e = .returned (.agg (cmC b (.slice x n k)).toArray) ∧ AutsAt w' (.slice x n k) b.mods ∧ Gr W w') := fun hs W h => ownC b b.mods vb W (hb.gr h) (Nat.le_trans (small_mods hs).1 (by decide))
  have HEQ : Hid (smallB a = true → ∀ W x y, AutsAt W x a.mods → AutsAt W y b.mods → Calls Tryz.prog 23 #[.agg (cmC a x).toArray, .agg (cmC b y).toArray] W fun e w' => e = .returned (.bool (decide (a = b))) ∧ Gr W w') := fun hs W x y h1 h2 => eqlC a b x y W h1 h2 (Nat.le_trans (small_mods hs).1 (by decide))
  have HEA : Hid (smallB a = true → ∀ W x y, AutsAt W x a.mods → AutsAt W y a.mods → Calls Tryz.prog 23 #[.agg (cmC a x).toArray, .agg (cmC a y).toArray] W fun e w' => e = .returned (.bool true) ∧ Gr W w') := fun hs W x y h1 h2 => by
    have := eqlC a a x y W h1 h2 (Nat.le_trans (small_mods hs).1 (by decide))
    rwa [decide_eq_true (rfl : a = a)] at this
  have HSM : Hid (smallB a = true → ∀ W, Gr w W → Calls Tryz.prog 21 #[.agg (cmC a va).toArray, .agg (cmC b vb).toArray] W fun e w' => e = .returned (.bool (decide (a = b))) ∧ Gr W w') := fun hs W h => sameC a b a.mods b.mods rfl rfl va vb W (ha.gr h) (hb.gr h) (Nat.le_trans (small_mods hs).1 (by decide))
  have G0 := Lib.hid g0
  have K0 := Lib.hid hK
  clear g0 hK ha hb hE
  generalize decide (a = b) = r at *
  generalize hsa : smallB a = sa at *
  generalize hsb : smallB b = sb at *
  clear hsa hsb
  go_enter Tryz.func8, Tryz.ntmps8
  go_wp2_with fail
  refine (HKN.out _ G0.out).mono ?_
  rintro e w1 ⟨rfl, hg1⟩
  have K1 := Lib.hid (K0.out.gr hg1)
  have G1 := Lib.hid (G0.out.trans hg1)
  obtain ⟨r1, r2, r3, r4⟩ := K1.out.rows
  clear hg1 K0 G0
  go_wp2_with fail
  refine (HSA.out _ G1.out).mono ?_
  rintro e w2 ⟨rfl, hg2⟩
  have K2 := Lib.hid (K1.out.gr hg2)
  have G2 := Lib.hid (G1.out.trans hg2)
  clear hg2 K1 G1 r1 r2 r3 r4
  obtain ⟨r1, r2, r3, r4⟩ := K2.out.rows
  cases sa with
  | false =>
    go_wp2_with (go_at_call 12; refine (HKN.out _ G2.out).mono ?_; rintro e w3 ⟨rfl, hg3⟩)
    go_ret
    exact ⟨rfl, G2.out.trans hg3⟩
  | true =>
    go_wp2_with fail
    refine (HSB.out _ G2.out).mono ?_
    rintro e w3 ⟨rfl, hg3⟩
    have K3 := Lib.hid (K2.out.gr hg3)
    have G3 := Lib.hid (G2.out.trans hg3)
    clear hg3 K2 G2 r1 r2 r3 r4
    cases sb with
    | false =>
      go_wp2_with (go_at_call 12; refine (HKN.out _ G3.out).mono ?_; rintro e w4 ⟨rfl, hg4⟩)
      go_ret
      exact ⟨rfl, G3.out.trans hg4⟩
    | true =>
      have KS : Hid (∀ W, Gr w3 W → hasRow W ⟨w.heap.size, 0, none⟩ 56 = true ∧ rowAt W ⟨w.heap.size, 0, none⟩ 56 = cmC a va ∧ hasRow W ⟨w.heap.size + 1, 0, none⟩ 56 = true ∧ rowAt W ⟨w.heap.size + 1, 0, none⟩ 56 = cmC b vb) := fun W h => (K3.out.gr h).rows
      have OA := Lib.hid (HOA.out (by first | rfl | trivial))
      have OB := Lib.hid (HOB.out (by first | rfl | trivial))
      have EQ := Lib.hid (HEQ.out (by first | rfl | trivial))
      have EA := Lib.hid (HEA.out (by first | rfl | trivial))
      have SM := Lib.hid (HSM.out (by first | rfl | trivial))
      clear HOA HOB HEQ HEA HSM HKN HSA HSB K3
      have g3 := (Gr.refl w3).drew
      have hS0 := KS.out _ g3
      cases r with
      | false =>
        go_wp2_with fail
        go_region_held_law (fun u => hasRow u ⟨w.heap.size, 0, none⟩ 56 = true ∧ rowAt u ⟨w.heap.size, 0, none⟩ 56 = cmC a va ∧ hasRow u ⟨w.heap.size + 1, 0, none⟩ 56 = true ∧ rowAt u ⟨w.heap.size + 1, 0, none⟩ 56 = cmC b vb)
          (first | with_reducible exact KS.out _ g10 | with_reducible exact KS.out _ g9 | with_reducible exact KS.out _ g8 | with_reducible exact KS.out _ g7 | with_reducible exact KS.out _ g6 | with_reducible exact KS.out _ g5 | with_reducible exact KS.out _ g4 | with_reducible exact hS0)
          (first
            | (go_at_call 15; with_reducible refine (OA.out _ (G3.out.trans g3)).mono ?_; rintro e w4 ⟨x1, n1, k1, rfl, hv1, hg4⟩; have g4 := g3.trans hg4)
            | (go_at_call 15; with_reducible refine (OB.out _ (G3.out.trans g4)).mono ?_; rintro e w5 ⟨x2, n2, k2, rfl, hv2, hg5⟩; have g5 := g4.trans hg5)
            | (go_at_call 23; with_reducible refine (EQ.out _ _ _ (hv1.gr hg5) hv2).mono ?_; rintro e w6 ⟨rfl, hg6⟩; have g6 := g5.trans hg6)
            | (go_at_call 21; with_reducible refine (SM.out _ (G3.out.trans g6)).mono ?_; rintro e w7 ⟨rfl, hg7⟩; have g7 := g6.trans hg7)
            | (go_at_call 15; with_reducible refine (OA.out _ (G3.out.trans g7)).mono ?_; rintro e w8 ⟨x3, n3, k3, rfl, hv3, hg8⟩; have g8 := g7.trans hg8)
            | (go_at_call 15; with_reducible refine (OA.out _ (G3.out.trans g8)).mono ?_; rintro e w9 ⟨x4, n4, k4, rfl, hv4, hg9⟩; have g9 := g8.trans hg9)
            | (go_at_call 23; with_reducible refine (EA.out _ _ _ (hv3.gr hg9) hv4).mono ?_; rintro e w10 ⟨rfl, hg10⟩; have g10 := g9.trans hg10))
        all_goals
          go_wp2_with fail
          go_ret
          exact ⟨rfl, G3.out.trans g10⟩
      | true =>
        go_wp2_with fail
        go_region_held_law (fun u => hasRow u ⟨w.heap.size, 0, none⟩ 56 = true ∧ rowAt u ⟨w.heap.size, 0, none⟩ 56 = cmC a va ∧ hasRow u ⟨w.heap.size + 1, 0, none⟩ 56 = true ∧ rowAt u ⟨w.heap.size + 1, 0, none⟩ 56 = cmC b vb)
          (first | with_reducible exact KS.out _ g10 | with_reducible exact KS.out _ g9 | with_reducible exact KS.out _ g8 | with_reducible exact KS.out _ g7 | with_reducible exact KS.out _ g6 | with_reducible exact KS.out _ g5 | with_reducible exact KS.out _ g4 | with_reducible exact hS0)
          (first
            | (go_at_call 15; with_reducible refine (OA.out _ (G3.out.trans g3)).mono ?_; rintro e w4 ⟨x1, n1, k1, rfl, hv1, hg4⟩; have g4 := g3.trans hg4)
            | (go_at_call 15; with_reducible refine (OB.out _ (G3.out.trans g4)).mono ?_; rintro e w5 ⟨x2, n2, k2, rfl, hv2, hg5⟩; have g5 := g4.trans hg5)
            | (go_at_call 23; with_reducible refine (EQ.out _ _ _ (hv1.gr hg5) hv2).mono ?_; rintro e w6 ⟨rfl, hg6⟩; have g6 := g5.trans hg6)
            | (go_at_call 21; with_reducible refine (SM.out _ (G3.out.trans g6)).mono ?_; rintro e w7 ⟨rfl, hg7⟩; have g7 := g6.trans hg7)
            | (go_at_call 15; with_reducible refine (OA.out _ (G3.out.trans g7)).mono ?_; rintro e w8 ⟨x3, n3, k3, rfl, hv3, hg8⟩; have g8 := g7.trans hg8)
            | (go_at_call 15; with_reducible refine (OA.out _ (G3.out.trans g8)).mono ?_; rintro e w9 ⟨x4, n4, k4, rfl, hv4, hg9⟩; have g9 := g8.trans hg9)
            | (go_at_call 23; with_reducible refine (EA.out _ _ _ (hv3.gr hg9) hv4).mono ?_; rintro e w10 ⟨rfl, hg10⟩; have g10 := g9.trans hg10))
        all_goals
          go_wp2_with fail
          go_ret
          exact ⟨rfl, G3.out.trans g10⟩
end Go.Proofs.YtcdcmohccbhchaaGreatDoor

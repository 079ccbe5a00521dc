/- The law ControlRoundTrip: for every command it returns true. -/
import Derived.Test.YtcdcmohccbhchaaGreatDoorBE
import Derived.Test.YtcdcmohccbhchaaGreatDoorBH
namespace Go.Proofs.YtcdcmohccbhchaaGreatDoor
open Go.RowKit

set_option maxRecDepth 100000 in
set_option maxHeartbeats 4000000 in
theorem wRound (a : Cm) (va : Value) (w : World) (hT : Tabs w) (ha : AutsAt w va a.mods) :
    Calls Tryz.prog 5 #[.agg (cmC a va).toArray] w fun e w' => e = .returned (.bool true) ∧ Gr w w' := by
  have g0 := (Gr.refl w).alloc (.cells (cmC a va).toArray 26)
  have hb0 : CmB (w.alloc (.cells (cmC a va).toArray 26)) w.heap.size 26 a va := heap_alloc_new w _
  have HSA : Hid (∀ W, Gr w W → Calls Tryz.prog 13 #[.agg (cmC a va).toArray] W fun e w' => e = .returned (.bool (smallB a)) ∧ Gr W w') := fun W h => smallC a va W (ha.gr h)
  have HKN : Hid (∀ W, Gr w W → Calls Tryz.prog 12 #[] W fun e w' => e = .returned (.bool true) ∧ Gr W w') := fun W h => knownC W (hT.env.gr h)
  have HOA : Hid (smallB a = true → ∀ W, Gr w W → Calls Tryz.prog 15 #[.agg (cmC a va).toArray] W fun e w' => ∃ x n k, e = .returned (.agg (cmC a (.slice x n k)).toArray) ∧ AutsAt w' (.slice x n k) a.mods ∧ Gr W w') := fun hs W h => ownC a a.mods va W (ha.gr h) (Nat.le_trans (small_mods hs).1 (by decide))
  have HPR : Hid (smallB a = true → ∀ W x, Gr w W → AutsAt W x a.mods → Calls Tryz.prog 14 #[.agg (cmC a x).toArray] W fun e w' => e = .returned (.tuple #[.string (bs (prS a)), .int .i64 (cmErr a)]) ∧ Gr W w') := fun hs W x h1 h2 => printC a x W (hT.gr h1) h2 (Nat.le_trans (small_mods hs).1 (by decide)) (by have := (small_mods hs).2; omega)
  have HCK : Hid (smallB a = true → ∀ W x, Gr w W → AutsAt W x a.mods → Calls Tryz.prog 17 #[.agg (cmC a x).toArray] W fun e w' => e = .returned (.int .i64 (cmErr a)) ∧ Gr W w') := fun hs W x h1 h2 => cmCheckC a x W (hT.env.gr h1) h2 (Nat.le_trans (small_mods hs).1 (by decide)) (by have := (small_mods hs).2; omega)
  have HEQ : Hid (smallB a = true → ∀ W x y, AutsAt W x a.mods → AutsAt W y a.mods → Calls Tryz.prog 23 #[.agg (cmC a x).toArray, .agg (cmC a y).toArray] W fun e w' => e = .returned (.bool true) ∧ Gr W w') := fun hs W x y h1 h2 => by
    have := eqlC a a x y W h1 h2 (Nat.le_trans (small_mods hs).1 (by decide))
    rwa [decide_eq_true (rfl : a = a)] at this
  have HPA : Hid (cmErr a = 0 → ∀ W, Gr w W → Calls Tryz.prog 19 #[.string (bs (prS a))] W fun e w' => ∃ x n k, e = .returned (.tuple #[.agg (cmC a (.slice x n k)).toArray, .int .i64 0, .int .i64 0]) ∧ AutsAt w' (.slice x n k) a.mods ∧ Gr W w') := fun he W h => by
    have hp := parseAll (bs (prS a)) W (hT.env.gr h) (hT.alph.gr h) (env_lt (hT.env.gr h))
    have e : parseS (bl (bs (prS a))) = (a, 0, 0) := by rw [bl_bs]; unfold prS; rw [if_pos he]; exact rt_all he
    rw [e] at hp
    refine hp.mono ?_
    rintro e w' ⟨v, he, hv, hg⟩
    obtain ⟨x, k, hx, hr⟩ := hv
    subst hx
    exact ⟨x, _, k, he, ⟨x, k, rfl, hr⟩, hg⟩
  have HZ : Hid (cmErr a ≠ 0 → bs (prS a) = ⟨#[]⟩) := fun h => by unfold prS; rw [if_neg h]; rfl
  have B0 := Lib.hid hb0
  have G0 := Lib.hid g0
  clear g0 hb0 ha hT
  generalize hsa : smallB a = sa at *
  generalize bs (prS a) = s at *
  generalize cmErr a = er at *
  clear hsa
  go_enter Tryz.func5, Tryz.ntmps5
  go_wp2_with fail
  refine (HKN.out _ G0.out).mono ?_
  rintro e w1 ⟨rfl, hg1⟩
  have B1 := Lib.hid (B0.out.gr hg1)
  obtain ⟨r1, q1⟩ := B1.out.rows
  have G1 := Lib.hid (G0.out.trans hg1)
  clear hg1 B0 G0
  go_wp2_with fail
  refine (HSA.out _ G1.out).mono ?_
  rintro e w2 ⟨rfl, hg2⟩
  have B2 := Lib.hid (B1.out.gr hg2)
  have G2 := Lib.hid (G1.out.trans hg2)
  clear hg2 B1 G1 r1 q1
  cases sa with
  | false =>
    go_wp2_with (go_at_call 12; refine (HKN.out _ G2.out).mono ?_; rintro e w3 ⟨rfl, hg3⟩)
    go_ret
    exact ⟨rfl, G2.out.trans hg3⟩
  | true =>
    obtain ⟨r1, q1⟩ := B2.out.rows
    have OA := Lib.hid (HOA.out (by first | rfl | trivial))
    have PR := Lib.hid (HPR.out (by first | rfl | trivial))
    have CK := Lib.hid (HCK.out (by first | rfl | trivial))
    have EQ := Lib.hid (HEQ.out (by first | rfl | trivial))
    clear HOA HPR HSA HKN HCK HEQ
    go_wp2_with fail
    refine (OA.out _ G2.out).mono ?_
    rintro e w3 ⟨x, n, k, rfl, hv, hg3⟩
    have B3 := Lib.hid (B2.out.gr hg3)
    have G3 := Lib.hid (G2.out.trans hg3)
    have HPP := Lib.hid (PR.out _ _ G3.out hv)
    clear hg3 hv r1 q1 PR G2 B2
    go_wp2_with fail
    refine HPP.out.mono ?_
    rintro e w4 ⟨rfl, hg4⟩
    have B4 := Lib.hid (B3.out.gr hg4)
    have G4 := Lib.hid (G3.out.trans hg4)
    obtain ⟨r1, q1⟩ := B4.out.rows
    clear hg4 HPP G3 B3
    by_cases he : er = 0
    · have PA := Lib.hid (HPA.out he)
      subst he
      clear HPA HZ CK r1 q1
      go_wp2_with fail
      refine (PA.out _ G4.out).mono ?_
      rintro e w5 ⟨x5, n5, k5, rfl, hv5, hg5⟩
      have B5 := Lib.hid (B4.out.gr hg5)
      have G5 := Lib.hid (G4.out.trans hg5)
      have g6 := (Gr.refl w5).alloc (.cells (cmC a (.slice x5 n5 k5)).toArray 37)
      have B6 := Lib.hid (B5.out.gr g6)
      have C6 : CmB (w5.alloc (.cells (cmC a (.slice x5 n5 k5)).toArray 37)) w5.heap.size 37 a (.slice x5 n5 k5) := heap_alloc_new w5 _
      obtain ⟨s1, s2⟩ := B6.out.rows
      have V6 := Lib.hid (hv5.gr g6)
      have G6 := Lib.hid (G5.out.trans g6)
      clear hg5 hv5 B5 B4 G4 G5 PA g6 s1 s2
      go_wp2_with fail
      generalize w5.alloc (.cells (cmC a (.slice x5 n5 k5)).toArray 37) = W6 at *
      generalize w5.heap.size = m5 at *
      have KS : Hid (∀ W, Gr W6 W → hasRow W ⟨w.heap.size, 0, none⟩ 56 = true ∧ rowAt W ⟨w.heap.size, 0, none⟩ 56 = cmC a va ∧ hasRow W ⟨m5, 0, none⟩ 56 = true ∧ rowAt W ⟨m5, 0, none⟩ 56 = cmC a (.slice x5 n5 k5)) := fun W h => ⟨(B6.out.gr h).rows.1, (B6.out.gr h).rows.2, (C6.gr h).rows.1, (C6.gr h).rows.2⟩
      clear B6 C6
      have g6 := (Gr.refl W6).drew
      have hS0 := KS.out _ g6
      go_region_held_law (fun u => hasRow u ⟨w.heap.size, 0, none⟩ 56 = true ∧ rowAt u ⟨w.heap.size, 0, none⟩ 56 = cmC a va ∧ hasRow u ⟨m5, 0, none⟩ 56 = true ∧ rowAt u ⟨m5, 0, none⟩ 56 = cmC a (.slice x5 n5 k5))
        (first | with_reducible exact KS.out _ g8 | with_reducible exact KS.out _ g7 | with_reducible exact hS0)
        (first
          | (go_at_call 15; with_reducible refine (OA.out _ (G6.out.trans g6)).mono ?_; rintro e w7 ⟨x7, n7, k7, rfl, hv7, hg7⟩; have g7 := g6.trans hg7)
          | (go_at_call 23; with_reducible refine (EQ.out _ _ _ (V6.out.gr g7) hv7).mono ?_; rintro e w8 ⟨rfl, hg8⟩; have g8 := g7.trans hg8))
      all_goals
        go_wp2_with fail
        go_ret
        exact ⟨rfl, G6.out.trans g8⟩
    · have hs := HZ.out he
      have hne : (er != 0) = true := by simp [he]
      subst hs
      clear HPA HZ EQ
      go_wp2_with fail
      refine (OA.out _ G4.out).mono ?_
      rintro e w5 ⟨x5, n5, k5, rfl, hv5, hg5⟩
      have G5 := Lib.hid (G4.out.trans hg5)
      have CC := Lib.hid (CK.out _ _ G5.out hv5)
      clear hg5 hv5 G4 B4 OA CK r1 q1
      go_wp2_with fail
      refine CC.out.mono ?_
      rintro e w6 ⟨rfl, hg6⟩
      have G6 := Lib.hid (G5.out.trans hg6)
      clear hg6 G5 CC
      go_wp2_with fail
      go_ret
      exact ⟨ret_bool (by simp), G6.out⟩
end Go.Proofs.YtcdcmohccbhchaaGreatDoor

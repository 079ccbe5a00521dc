/- The reference's Print at every command; the law ControlPrint: for every command it returns true. -/
import Derived.Test.YtcdcmohccbhchaaGreatDoorBI
import Derived.Test.YtcdcmohccbhchaaGreatDoorBE
import Derived.Test.YtcdcmohccbhchaaGreatDoorBF
import Derived.Test.YtcdcmohccbhchaaGreatDoorBH
namespace Go.Proofs.YtcdcmohccbhchaaGreatDoor
open Go.RowKit

theorem mods_good {c : Cm} (h : modeErr c = 0) : c.mods.length ≤ 8 := by
  unfold modeErr modsErr at h
  split at h
  · split at h
    · cases h
    · omega
  · split at h
    · cases h
    · split at h
      · cases h
      · omega
theorem text_good {s : Str} (h : textErr s = 0) : s.length ≤ 200 := by
  unfold textErr at h
  split at h
  · cases h
  · omega
set_option maxRecDepth 100000 in
set_option maxHeartbeats 4000000 in
theorem refPrintC (c : Cm) (v : Value) (w : World) (hv : AutsAt w v c.mods) (hl : c.mods.length ≤ 1000000) :
    Calls Tryz.prog 16 #[.agg (cmC c v).toArray] w fun e w' => e = .returned (.tuple #[.string (bs (prS c)), .int .i64 (cmErr c)]) ∧ Gr w w' := by
  have gA := (Gr.refl w).alloc (.cells (cmC c v).toArray 26)
  have hck := refCheckC c v _ (hv.gr gA) hl
  by_cases he : cmErr c = 0
  · have hp : prS c = printS c := by unfold prS; rw [if_pos he]
    rw [hp, he]
    rw [he] at hck
    obtain ⟨k, t, g, n, m, l, tx, nu, ht, r⟩ := c
    obtain ⟨k1, k5, -⟩ := cm_good he
    simp only at k1 k5 hv hl
    have hk5 : k = 1 ∨ k = 2 ∨ k = 3 ∨ k = 4 ∨ k = 5 := by omega
    rcases hk5 with rfl | rfl | rfl | rfl | rfl
    · exact refPrint1 t g n m l tx nu ht r v w hck
    · exact refPrint2 t g n m l tx nu ht r v w (name_ok (good2 he)).1 hck
    · obtain ⟨g1, g2, g3, g4, g5⟩ := good3 he
      obtain ⟨n, rfl⟩ : ∃ k : Nat, n = (k : Int) := ⟨n.toNat, by omega⟩
      exact refPrint3 t g n m l tx nu ht r v w hv (name_ok g1).1 (by omega) (mods_good g4) (by rw [← bl_length]; exact text_good g5) hck
    · obtain ⟨g1, g2, g3⟩ := good4 he
      obtain ⟨n, rfl⟩ : ∃ k : Nat, n = (k : Int) := ⟨n.toNat, by omega⟩
      exact refPrint4 t g n m l tx nu ht r v w (name_ok g1).1 (by omega) hck
    · obtain ⟨g1, g2, g3, g4⟩ := good5 he
      obtain ⟨nu, rfl⟩ : ∃ k : Nat, nu = (k : Int) := ⟨nu.toNat, by omega⟩
      exact refPrint5 t g n m l tx nu ht r v w (by omega) (by omega) g3 g4 hck
  · have hp : prS c = [] := by unfold prS; rw [if_neg he]
    rw [hp]
    have HC := Lib.hid hck
    have G0 := Lib.hid gA
    have y1 : (cmErr c == 0) = false := by simpa using he
    have y2 : (cmErr c != 0) = true := by simpa using he
    have HB0 : Hid (bs [] = (⟨#[]⟩ : ByteArray)) := rfl
    rw [HB0.out]
    generalize cmErr c = er at *
    clear hck gA he hv hl
    go_enter Tryz.func16, Tryz.ntmps16
    go_wp2_with (go_at_call 18; with_reducible refine HC.out.mono ?_; rintro e w1 ⟨rfl, hg1⟩)
    go_ret2
    exact ⟨rfl, G0.out.trans hg1⟩
set_option maxRecDepth 100000 in
set_option maxHeartbeats 4000000 in
theorem wPrint (a : Cm) (va : Value) (w : World) (hT : Tabs w) (ha : AutsAt w va a.mods) :
    Calls Tryz.prog 3 #[.agg (cmC a va).toArray] w fun e w' => e = .returned (.bool true) ∧ Gr w w' := by
  have g0 := (Gr.refl w).alloc (.cells (cmC a va).toArray 26)
  have hb0 : CmB (w.alloc (.cells (cmC a va).toArray 26)) w.heap.size 26 a va := heap_alloc_new w _
  have HSA : Hid (∀ W, Gr w W → Calls Tryz.prog 13 #[.agg (cmC a va).toArray] W fun e w' => e = .returned (.bool (smallB a)) ∧ Gr W w') := fun W h => smallC a va W (ha.gr h)
  have HKN : Hid (∀ W, Gr w W → Calls Tryz.prog 12 #[] W fun e w' => e = .returned (.bool true) ∧ Gr W w') := fun W h => knownC W (hT.env.gr h)
  have HOA : Hid (smallB a = true → ∀ W, Gr w W → Calls Tryz.prog 15 #[.agg (cmC a va).toArray] W fun e w' => ∃ x n k, e = .returned (.agg (cmC a (.slice x n k)).toArray) ∧ AutsAt w' (.slice x n k) a.mods ∧ Gr W w') := fun hs W h => ownC a a.mods va W (ha.gr h) (Nat.le_trans (small_mods hs).1 (by decide))
  have HPR : Hid (smallB a = true → ∀ W x, Gr w W → AutsAt W x a.mods → Calls Tryz.prog 14 #[.agg (cmC a x).toArray] W fun e w' => e = .returned (.tuple #[.string (bs (prS a)), .int .i64 (cmErr a)]) ∧ Gr W w') := fun hs W x h1 h2 => printC a x W (hT.gr h1) h2 (Nat.le_trans (small_mods hs).1 (by decide)) (by have := (small_mods hs).2; omega)
  have HRP : Hid (smallB a = true → ∀ W, Gr w W → Calls Tryz.prog 16 #[.agg (cmC a va).toArray] W fun e w' => e = .returned (.tuple #[.string (bs (prS a)), .int .i64 (cmErr a)]) ∧ Gr W w') := fun hs W h => refPrintC a va W (ha.gr h) (Nat.le_trans (small_mods hs).1 (by decide))
  have HRC : Hid (smallB a = true → ∀ W, Gr w W → Calls Tryz.prog 18 #[.agg (cmC a va).toArray] W fun e w' => e = .returned (.int .i64 (cmErr a)) ∧ Gr W w') := fun hs W h => refCheckC a va W (ha.gr h) (Nat.le_trans (small_mods hs).1 (by decide))
  have HOC : Hid (smallB a = true → ∀ W x, Gr w W → AutsAt W x a.mods → Calls Tryz.prog 17 #[.agg (cmC a x).toArray] W fun e w' => e = .returned (.int .i64 (cmErr a)) ∧ Gr W w') := fun hs W x h1 h2 => cmCheckC a x W (hT.env.gr h1) h2 (Nat.le_trans (small_mods hs).1 (by decide)) (by have := (small_mods hs).2; omega)
  have B0 := Lib.hid hb0
  have G0 := Lib.hid g0
  clear g0 hb0 ha hT
  generalize hsa : smallB a = sa at *
  generalize bs (prS a) = s at *
  generalize cmErr a = er at *
  clear hsa
  go_enter Tryz.func3, Tryz.ntmps3
  go_wp2_with fail
  refine (HKN.out _ G0.out).mono ?_
  rintro e w1 ⟨rfl, hg1⟩
  have B1 := Lib.hid (B0.out.gr hg1)
  obtain ⟨r1, q1⟩ := B1.out.rows
  have G1 := Lib.hid (G0.out.trans hg1)
  clear hg1 B0 G0
  go_wp2_with fail
  refine (HSA.out _ G1.out).mono ?_
  rintro e w2 ⟨rfl, hg2⟩
  have B2 := Lib.hid (B1.out.gr hg2)
  have G2 := Lib.hid (G1.out.trans hg2)
  clear hg2 B1 G1 r1 q1
  cases sa with
  | false =>
    go_wp2_with (go_at_call 12; refine (HKN.out _ G2.out).mono ?_; rintro e w3 ⟨rfl, hg3⟩)
    go_ret
    exact ⟨rfl, G2.out.trans hg3⟩
  | true =>
    obtain ⟨r1, q1⟩ := B2.out.rows
    have OA := Lib.hid (HOA.out (by first | rfl | trivial))
    have PR := Lib.hid (HPR.out (by first | rfl | trivial))
    have RP := Lib.hid (HRP.out (by first | rfl | trivial))
    have RC := Lib.hid (HRC.out (by first | rfl | trivial))
    have OC := Lib.hid (HOC.out (by first | rfl | trivial))
    clear HOA HPR HRP HRC HOC HSA HKN
    go_wp2_with fail
    refine (OA.out _ G2.out).mono ?_
    rintro e w3 ⟨x, n, k, rfl, hv, hg3⟩
    have B3 := Lib.hid (B2.out.gr hg3)
    have G3 := Lib.hid (G2.out.trans hg3)
    have HPP := Lib.hid (PR.out _ _ G3.out hv)
    clear hg3 hv r1 q1 PR G2 B2
    go_wp2_with fail
    refine HPP.out.mono ?_
    rintro e w4 ⟨rfl, hg4⟩
    have B4 := Lib.hid (B3.out.gr hg4)
    have G4 := Lib.hid (G3.out.trans hg4)
    obtain ⟨r1, q1⟩ := B4.out.rows
    clear hg4 HPP G3 B3
    go_wp2_with fail
    refine (RP.out _ G4.out).mono ?_
    rintro e w5 ⟨rfl, hg5⟩
    have B5 := Lib.hid (B4.out.gr hg5)
    have G5 := Lib.hid (G4.out.trans hg5)
    obtain ⟨r1', q1'⟩ := B5.out.rows
    clear hg5 G4 B4 r1 q1 RP
    go_wp2_with fail
    have KS : Hid (∀ W, Gr w5 W → hasRow W ⟨w.heap.size, 0, none⟩ 56 = true ∧ rowAt W ⟨w.heap.size, 0, none⟩ 56 = cmC a va) := fun W h => (B5.out.gr h).rows
    have g0 := (Gr.refl w5).drew
    have y1 : (er == er) = true := beq_self_eq_true er
    go_region_held_law (fun u => hasRow u ⟨w.heap.size, 0, none⟩ 56 = true ∧ rowAt u ⟨w.heap.size, 0, none⟩ 56 = cmC a va)
      (first | with_reducible exact KS.out _ g3 | with_reducible exact KS.out _ g2 | with_reducible exact KS.out _ g1 | with_reducible exact KS.out _ g0)
      (first
        | (go_at_call 15; with_reducible refine (OA.out _ (G5.out.trans g0)).mono ?_; rintro e w6 ⟨x1, n1, k1, rfl, hv1, hg6⟩; have g1 := g0.trans hg6)
        | (go_at_call 17; with_reducible refine (OC.out _ _ (G5.out.trans g1) hv1).mono ?_; rintro e w7 ⟨rfl, hg7⟩; have g2 := g1.trans hg7)
        | (go_at_call 18; with_reducible refine (RC.out _ (G5.out.trans g2)).mono ?_; rintro e w8 ⟨rfl, hg8⟩; have g3 := g2.trans hg8))
    all_goals
      go_wp2_with fail
      go_ret
      exact ⟨rfl, G5.out.trans g3⟩
end Go.Proofs.YtcdcmohccbhchaaGreatDoor

/- The law ControlAuthors: for every identity and text it returns true. -/
import Derived.Test.YtcdcmohccbhchaaGreatDoorKKnw
import Derived.Test.YtcdcmohccbhchaaGreatDoorKPar2
namespace Go.Proofs.YtcdcmohccbhchaaGreatDoor
open Go.RowKit

theorem paV_autT (a : Aut) : paV (autT a) = .tuple #[.agg (bC a).toArray, .int .i64 0, .int .i64 0] := by
  unfold paV; rw [autOf_autT, autErr_autT']
@[go_sem ↓ high] theorem zeroAutV (w : World) : Sem.run Tryz.prog (zeroValue 52) w = .ok (.agg (bC zAut).toArray) w := by kernel_rfl
@[go_sem ↓ high] theorem zeroA16V (w : World) : Sem.run Tryz.prog (zeroValue 24) w = .ok (.agg (bC zAut).toArray) w := by kernel_rfl
@[go_sem ↓ high] theorem st_aut (w : World) (t : TypeId) (b : Nat) (x y : Aut) (hb : b = w.heap.size) : (w.alloc (.cells (bC x).toArray t)).setCells b 0 (bC y) = w.alloc (.cells (bC y).toArray t) := by
  have e := setCells_mid w t b hb [] (bC y) [] (bC x) (by rw [bC_length, bC_length])
  simpa using e
/-- An identity in a block. -/
def AutB (W : World) (b : Nat) (t : TypeId) (x : Aut) : Prop := W.heap[b]? = some (.cells (bC x).toArray t (0, 0))
theorem AutB.gr {W W' : World} {b : Nat} {t : TypeId} {x : Aut} (h : AutB W b t x) (hg : Gr W W') : AutB W' b t x := (hg.block (Array.getElem?_eq_some_iff.1 h).1).trans h
theorem AutB.rows {W : World} {b : Nat} {t : TypeId} {x : Aut} (h : AutB W b t x) : hasRow W ⟨b, 0, none⟩ 16 = true ∧ rowAt W ⟨b, 0, none⟩ 16 = bC x ∧ b < W.heap.size :=
  ⟨hasRow_block h 0 16 (by rw [bC_length]; decide), (rowAt_block h 0 16 (by rw [bC_length]; decide)).trans (rowOf_all _ _ (bC_length x)), (Array.getElem?_eq_some_iff.1 h).1⟩
set_option maxRecDepth 100000 in
set_option maxHeartbeats 2000000 in
theorem wAuthors (a : Aut) (s : ByteArray) (w : World) (hE : Env w) : Calls Tryz.prog 9 #[.agg (bC a).toArray, .string s] w fun e w' => e = .returned (.bool true) ∧ Gr w w' := by
  have g0 := (Gr.refl w).alloc (.cells (bC a).toArray 24)
  have B0 := Lib.hid (heap_alloc_new w (.cells (bC a).toArray 24))
  have HK : Hid (∀ W, Gr w W → Calls Tryz.prog 12 #[] W fun e w' => e = .returned (.bool true) ∧ Gr W w') := fun W h => knownC W (hE.gr h)
  have G0 := Lib.hid g0
  clear g0 hE
  by_cases h1 : 100 < s.size
  · have h2 : 100 < (s.size : Int) := by omega
    go_enter Tryz.func9, Tryz.ntmps9
    go_wp2_with fail
    refine (HK.out _ G0.out).mono ?_
    rintro e w1 ⟨rfl, hg1⟩
    have G1 := Lib.hid (G0.out.trans hg1)
    clear hg1
    go_wp2_with fail
    refine (HK.out _ G1.out).mono ?_
    rintro e w2 ⟨rfl, hg2⟩
    have G2 := Lib.hid (G1.out.trans hg2)
    clear hg2
    go_wp2_with fail
    go_ret
    exact ⟨rfl, G2.out⟩
  · have h2 : ¬ 100 < (s.size : Int) := by omega
    have HPA := Lib.hid (paV_autT a)
    have HT : Hid (∀ W, Calls Tryz.prog 24 #[.agg (bC a).toArray] W fun e w' => e = .returned (.string (bs (autT a))) ∧ Gr W w') := authorTextC a
    have HR : Hid (∀ W, Calls Tryz.prog 27 #[.agg (bC a).toArray] W fun e w' => e = .returned (.string (bs (autT a))) ∧ Gr W w') := refAuthorC a
    have HP1 : Hid (∀ W, Calls Tryz.prog 25 #[.string (bs (autT a))] W fun e w' => e = .returned (.tuple #[.agg (bC a).toArray, .int .i64 0, .int .i64 0]) ∧ Gr W w') := fun W => by
      have h := parseAuthorC (bs (autT a)) W (by rw [bs_size, autT_len]; decide)
      rw [bl_bs, HPA.out] at h; exact h
    have HP2 : Hid (∀ W, Calls Tryz.prog 25 #[.string s] W fun e w' => e = .returned (.tuple #[.agg (bC (autOf (bl s))).toArray, .int .i64 (autErr (bl s)).1, .int .i64 (autErr (bl s)).2]) ∧ Gr W w') := fun W => parseAuthorC s W (by omega)
    have HP3 : Hid (∀ W, Calls Tryz.prog 26 #[.string s] W fun e w' => e = .returned (.tuple #[.agg (bC (autOf (bl s))).toArray, .int .i64 (autErr (bl s)).1, .int .i64 (autErr (bl s)).2]) ∧ Gr W w') := fun W => refParseC s W (by omega)
    generalize autOf (bl s) = x at *
    generalize (autErr (bl s)).1 = at_ at *
    generalize (autErr (bl s)).2 = er at *
    have hbs : ((bs (autT a)).toList == (bs (autT a)).toList) = true := by simp
    generalize bs (autT a) = t at *
    go_enter Tryz.func9, Tryz.ntmps9
    go_wp2_with fail
    refine (HK.out _ G0.out).mono ?_
    rintro e w1 ⟨rfl, hg1⟩
    have B1 : Hid (AutB w1 w.heap.size 24 a) := (hg1.block (b := w.heap.size) (by simp)).trans B0.out
    have G1 := Lib.hid (G0.out.trans hg1)
    obtain ⟨r0, q0, z0⟩ := B1.out.rows
    clear hg1 B0 G0
    go_wp2_with fail
    refine (HT.out _).mono ?_
    rintro e w2 ⟨rfl, hg2⟩
    have B2 := Lib.hid (B1.out.gr hg2)
    have G2 := Lib.hid (G1.out.trans hg2)
    clear hg2 r0 q0 z0 B1 G1 HT
    go_wp2_with fail
    refine (HP1.out _).mono ?_
    rintro e w3 ⟨rfl, hg3⟩
    have B3 := Lib.hid (B2.out.gr hg3)
    have G3 := Lib.hid (G2.out.trans hg3)
    clear hg3 B2 G2 HP1
    go_wp2_with fail
    have g3 := (Gr.refl w3).alloc (.cells (bC a).toArray 52)
    have C3 : AutB (w3.alloc (.cells (bC a).toArray 52)) w3.heap.size 52 a := heap_alloc_new w3 _
    refine (HP2.out _).mono ?_
    rintro e w4 ⟨rfl, hg4⟩
    have B4 := Lib.hid ((B3.out.gr g3).gr hg4)
    have C4 := Lib.hid (C3.gr hg4)
    have G4 := Lib.hid ((G3.out.trans g3).trans hg4)
    clear hg4 g3 C3 B3 G3 HP2
    go_wp2_with fail
    have g4 := (Gr.refl w4).alloc (.cells (bC x).toArray 52)
    have D4 : AutB (w4.alloc (.cells (bC x).toArray 52)) w4.heap.size 52 x := heap_alloc_new w4 _
    refine (HP3.out _).mono ?_
    rintro e w5 ⟨rfl, hg5⟩
    have B5 := Lib.hid ((B4.out.gr g4).gr hg5)
    have C5 := Lib.hid ((C4.out.gr g4).gr hg5)
    have D5 := Lib.hid (D4.gr hg5)
    have G5 := Lib.hid ((G4.out.trans g4).trans hg5)
    clear hg5 g4 D4 B4 C4 G4 HP3
    have g6 := (Gr.refl w5).alloc (.cells (bC x).toArray 24)
    have E6 : AutB (w5.alloc (.cells (bC x).toArray 24)) w5.heap.size 24 x := heap_alloc_new w5 _
    have B6 := Lib.hid (B5.out.gr g6); have C6 := Lib.hid (C5.out.gr g6); have D6 := Lib.hid (D5.out.gr g6)
    have G6 := Lib.hid (G5.out.trans g6)
    obtain ⟨b1, b2, b3⟩ := B6.out.rows
    go_wp2_with fail
    refine (HR.out _).mono ?_
    rintro e w7 ⟨rfl, hg7⟩
    obtain ⟨m1, m2, m3⟩ := (B6.out.gr hg7).rows
    obtain ⟨n1, n2, n3⟩ := (C6.out.gr hg7).rows
    obtain ⟨o1, o2, o3⟩ := (D6.out.gr hg7).rows
    obtain ⟨p1, p2, p3⟩ := (E6.gr hg7).rows
    have G7 := Lib.hid (G6.out.trans hg7)
    clear b1 b2 b3 g6 E6 hg7 B5 C5 D5 B6 C6 D6 G5 G6 HR
    go_wp2_with fail
    go_ret
    exact ⟨rfl, G7.out⟩
end Go.Proofs.YtcdcmohccbhchaaGreatDoor

/- The law ControlCanonical: for every text it returns true. -/
import Derived.Test.YtcdcmohccbhchaaGreatDoorBH
namespace Go.Proofs.YtcdcmohccbhchaaGreatDoor
open Go.RowKit

set_option maxRecDepth 100000 in
set_option maxHeartbeats 4000000 in
theorem wCanon (s : ByteArray) (w : World) (hT : Tabs w) :
    Calls Tryz.prog 6 #[.string s] w fun e w' => e = .returned (.bool true) ∧ Gr w w' := by
  have HKN : Hid (∀ W, Gr w W → Calls Tryz.prog 12 #[] W fun e w' => e = .returned (.bool true) ∧ Gr W w') := fun W h => knownC W (hT.env.gr h)
  obtain ⟨c, k, er, hp⟩ : ∃ c k er, parseS (bl s) = (c, k, er) := ⟨_, _, _, rfl⟩
  have HPA : Hid (∀ W, Gr w W → Calls Tryz.prog 19 #[.string s] W fun e w' => ∃ x n l, e = .returned (.tuple #[.agg (cmC c (.slice x n l)).toArray, .int .i64 (k : Int), .int .i64 er]) ∧ AutsAt w' (.slice x n l) c.mods ∧ Gr W w') := fun W h => by
    have := parseAll s W (hT.env.gr h) (hT.alph.gr h) (env_lt (hT.env.gr h))
    rw [hp] at this
    refine this.mono ?_
    rintro e w' ⟨v, he, hv, hg⟩
    obtain ⟨x, k, hx, hr⟩ := hv
    subst hx
    exact ⟨x, _, k, he, ⟨x, k, rfl, hr⟩, hg⟩
  have HEQ : Hid (er ≠ 0 → c = cm0 0) := fun h => by have := parse_bad (s := bl s) (by rw [hp]; exact h); rwa [hp] at this
  have HGD : Hid (er = 0 → Good c (bl s)) := fun h => by have := canon (s := bl s) (by rw [hp]; exact h); rwa [hp] at this
  have HPR : Hid (er = 0 → ∀ W x, Gr w W → AutsAt W x c.mods → Calls Tryz.prog 14 #[.agg (cmC c x).toArray] W fun e w' => e = .returned (.tuple #[.string s, .int .i64 0]) ∧ Gr W w') := fun h W x h1 h2 => by
    obtain ⟨e1, e2, e3, e4⟩ := HGD.out h
    have := printC c x W (hT.gr h1) h2 (by omega) (by omega)
    unfold prS at this
    rw [if_pos e1, e2, e1, bs_bl] at this
    exact this
  have HCK : Hid (er = 0 → ∀ W x, Gr w W → AutsAt W x c.mods → Calls Tryz.prog 17 #[.agg (cmC c x).toArray] W fun e w' => e = .returned (.int .i64 0) ∧ Gr W w') := fun h W x h1 h2 => by
    obtain ⟨e1, e2, e3, e4⟩ := HGD.out h
    have := cmCheckC c x W (hT.env.gr h1) h2 (by omega) (by omega)
    rwa [e1] at this
  have HQ0 : Hid (∀ W x, AutsAt W x (cm0 0).mods → Calls Tryz.prog 23 #[.agg (cmC (cm0 0) x).toArray, .agg (cmC (cm0 0) nilV).toArray] W fun e w' => e = .returned (.bool true) ∧ Gr W w') := fun W x h => by
    have := eqlC (cm0 0) (cm0 0) x nilV W h (nil_auts W) (by decide)
    rwa [decide_eq_true (rfl : cm0 0 = cm0 0)] at this
  have G0 : Hid (Gr w w) := Gr.refl w
  have hss : (s.toList == s.toList) = true := by simp
  clear hp HGD hT
  go_enter Tryz.func6, Tryz.ntmps6
  go_wp2_with fail
  refine (HKN.out _ G0.out).mono ?_
  rintro e w1 ⟨rfl, hg1⟩
  have G1 := Lib.hid (G0.out.trans hg1)
  clear hg1 G0
  by_cases h1 : 1100 < s.size
  · have h2 : 1100 < (s.size : Int) := by omega
    go_wp2_with fail
    refine (HKN.out _ G1.out).mono ?_
    rintro e w2 ⟨rfl, hg2⟩
    have G2 := Lib.hid (G1.out.trans hg2)
    clear hg2
    go_wp2_with fail
    go_ret
    exact ⟨rfl, G2.out⟩
  · have h2 : ¬ 1100 < (s.size : Int) := by omega
    go_wp2_with fail
    refine (HPA.out _ G1.out).mono ?_
    rintro e w2 ⟨x, n, l, rfl, hv, hg2⟩
    have G2 := Lib.hid (G1.out.trans hg2)
    clear hg2 G1 HPA HKN
    by_cases he : er = 0
    · have PR := Lib.hid (HPR.out he)
      have CK := Lib.hid (HCK.out he)
      subst he
      clear HPR HCK HQ0 HEQ
      have g3 := (Gr.refl w2).alloc (.cells (cmC c (.slice x n l)).toArray 37)
      have C3 : Hid (CmB (w2.alloc (.cells (cmC c (.slice x n l)).toArray 37)) w2.heap.size 37 c (.slice x n l)) := heap_alloc_new w2 _
      have V3 := Lib.hid (hv.gr g3)
      have G3 := Lib.hid (G2.out.trans g3)
      clear g3 hv G2
      go_wp2_with fail
      refine (PR.out _ _ G3.out V3.out).mono ?_
      rintro e w4 ⟨rfl, hg4⟩
      have C4 := Lib.hid (C3.out.gr hg4)
      have V4 := Lib.hid (V3.out.gr hg4)
      have G4 := Lib.hid (G3.out.trans hg4)
      obtain ⟨r1, q1⟩ := C4.out.rows
      clear hg4 C3 V3 G3 PR
      go_wp2_with fail
      refine (CK.out _ _ G4.out V4.out).mono ?_
      rintro e w5 ⟨rfl, hg5⟩
      have G5 := Lib.hid (G4.out.trans hg5)
      clear hg5
      go_wp2_with fail
      go_ret
      exact ⟨rfl, G5.out⟩
    · have hc := HEQ.out he
      subst hc
      have hne : (er != 0) = true := by simp [he]
      clear HPR HCK HEQ he
      have g3 := (Gr.refl w2).alloc (.cells (cmC (cm0 0) (.slice x n l)).toArray 37)
      have V3 := Lib.hid (hv.gr g3)
      have G3 := Lib.hid (G2.out.trans g3)
      clear g3 hv G2
      go_wp2_with fail
      refine (HQ0.out _ _ V3.out).mono ?_
      rintro e w4 ⟨rfl, hg4⟩
      have G4 := Lib.hid (G3.out.trans hg4)
      clear hg4
      go_wp2_with fail
      go_ret
      exact ⟨rfl, G4.out⟩
end Go.Proofs.YtcdcmohccbhchaaGreatDoor

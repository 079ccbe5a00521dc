/- The law ControlField: for every command it returns true. -/
import Derived.Test.YtcdcmohccbhchaaGreatDoorBE
import Derived.Test.YtcdcmohccbhchaaGreatDoorBF
namespace Go.Proofs.YtcdcmohccbhchaaGreatDoor
open Go.RowKit

theorem fld_get {s : ByteArray} (h : fldB (bl s)) : 0 < s.size ∧ s.toList.isEmpty = false ∧ ∀ h0 : 0 < s.size, s[0].toNat ≠ 32 ∧ (s[s.size - 1]'(by omega)).toNat ≠ 32 := by
  obtain ⟨h1, _, h3, h4⟩ := h
  have hl := bl_length s
  have hp : 0 < s.size := by
    cases e : bl s with
    | nil => exact absurd e h1
    | cons a l => rw [e] at hl; simp at hl; omega
  refine ⟨hp, by rw [bl_toList, List.isEmpty_eq_false_iff]; exact h1, fun h0 => ⟨fun e => h3 ?_, fun e => h4 ?_⟩⟩
  · rw [List.head?_eq_getElem?, List.getElem?_eq_getElem (by omega)]
    exact congrArg some (UInt8.toNat_inj.1 e)
  · rw [List.getLast?_eq_getElem?, hl, List.getElem?_eq_getElem (by omega)]
    exact congrArg some (UInt8.toNat_inj.1 e)
theorem fld_byte {s : ByteArray} (h : fldB (bl s)) (k : Nat) (hk : k < s.size) : 32 ≤ s[k].toNat ∧ s[k].toNat ≤ 126 :=
  h.2.1 s[k] (by have e : (bl s)[k]'(by rw [bl_length]; exact hk) = s[k] := rfl
                 rw [← e]; exact List.getElem_mem _)
set_option maxRecDepth 100000 in
set_option maxHeartbeats 4000000 in
theorem wField (a : Cm) (va : Value) (w : World) (hT : Tabs w) (ha : AutsAt w va a.mods) :
    Calls Tryz.prog 7 #[.agg (cmC a va).toArray] w fun e w' => e = .returned (.bool true) ∧ Gr w w' := by
  have g0 := (Gr.refl w).alloc (.cells (cmC a va).toArray 26)
  have hb0 := heap_alloc_new w (.cells (cmC a va).toArray 26)
  have HSA : Hid (∀ W, Gr w W → Calls Tryz.prog 13 #[.agg (cmC a va).toArray] W fun e w' => e = .returned (.bool (smallB a)) ∧ Gr W w') := fun W h => smallC a va W (ha.gr h)
  have HKN : Hid (∀ W, Gr w W → Calls Tryz.prog 12 #[] W fun e w' => e = .returned (.bool true) ∧ Gr W w') := fun W h => knownC W (hT.env.gr h)
  have HOA : Hid (smallB a = true → ∀ W, Gr w W → Calls Tryz.prog 15 #[.agg (cmC a va).toArray] W fun e w' => ∃ x n k, e = .returned (.agg (cmC a (.slice x n k)).toArray) ∧ AutsAt w' (.slice x n k) a.mods ∧ Gr W w') := fun hs W h => ownC a a.mods va W (ha.gr h) (Nat.le_trans (small_mods hs).1 (by decide))
  have HPR : Hid (smallB a = true → ∀ W x, Gr w W → AutsAt W x a.mods → Calls Tryz.prog 14 #[.agg (cmC a x).toArray] W fun e w' => e = .returned (.tuple #[.string (bs (prS a)), .int .i64 (cmErr a)]) ∧ Gr W w') := fun hs W x h1 h2 => printC a x W (hT.gr h1) h2 (Nat.le_trans (small_mods hs).1 (by decide)) (by have := (small_mods hs).2; omega)
  have HF : Hid (cmErr a = 0 → fldB (bl (bs (prS a))) ∧ (bs (prS a)).size ≤ 900) := fun h => by
    have := print_fld h
    rw [bl_bs]; unfold prS; rw [if_pos h]; exact this
  have B0 := Lib.hid hb0
  have G0 := Lib.hid g0
  clear g0 hb0 ha hT
  generalize hsa : smallB a = sa at *
  generalize bs (prS a) = s at *
  generalize cmErr a = er at *
  clear hsa
  go_enter Tryz.func7, Tryz.ntmps7
  go_wp2_with fail
  refine (HKN.out _ G0.out).mono ?_
  rintro e w1 ⟨rfl, hg1⟩
  have b1 := (hg1.block (b := w.heap.size) (by simp)).trans B0.out
  have r1 := hasRow_block b1 0 56 (by rw [cmC_length]; decide)
  have q1 := (rowAt_block b1 0 56 (by rw [cmC_length]; decide)).trans (cm_whole a va)
  have B1 := Lib.hid b1
  have G1 := Lib.hid (G0.out.trans hg1)
  clear hg1 b1 B0 G0
  go_wp2_with fail
  refine (HSA.out _ G1.out).mono ?_
  rintro e w2 ⟨rfl, hg2⟩
  have b2 := (hg2.block (Array.getElem?_eq_some_iff.1 B1.out).1).trans B1.out
  have G2 := Lib.hid (G1.out.trans hg2)
  clear hg2 B1 G1 r1 q1
  cases sa with
  | false =>
    go_wp2_with (go_at_call 12; refine (HKN.out _ G2.out).mono ?_; rintro e w3 ⟨rfl, hg3⟩)
    go_ret
    exact ⟨rfl, G2.out.trans hg3⟩
  | true =>
    have r1 := hasRow_block b2 0 56 (by rw [cmC_length]; decide)
    have q1 := (rowAt_block b2 0 56 (by rw [cmC_length]; decide)).trans (cm_whole a va)
    have OA := Lib.hid (HOA.out (by first | rfl | trivial))
    have PR := Lib.hid (HPR.out (by first | rfl | trivial))
    clear HOA HPR HSA HKN b2
    go_wp2_with fail
    refine (OA.out _ G2.out).mono ?_
    rintro e w3 ⟨x, n, k, rfl, hv, hg3⟩
    have G3 := Lib.hid (G2.out.trans hg3)
    have HPP := Lib.hid (PR.out _ _ G3.out hv)
    clear hg3 hv r1 q1 OA PR G2
    go_wp2_with fail
    refine HPP.out.mono ?_
    rintro e w4 ⟨rfl, hg4⟩
    have G4 := Lib.hid (G3.out.trans hg4)
    clear hg4 HPP G3
    by_cases he : er = 0
    · have FB := Lib.hid (HF.out he)
      subst he
      obtain ⟨f1, f2, f3⟩ := fld_get FB.out.1
      have HBY : Hid (∀ k (hk : k < s.size), 32 ≤ s[k].toNat ∧ s[k].toNat ≤ 126) := fld_byte FB.out.1
      have f9 := FB.out.2
      have f4 := (f3 f1).1
      have f5 := (f3 f1).2
      clear HF FB f3
      go_wp2_with fail
      go_loop [5, 22, 23, 24, 25, 26, 27, 28, 29, 30, 31, 32, 33, 34, 35, 36, 37] (fun i _ _ _ _ _ _ _ _ _ _ _ _ _ _ _ _ => ∃ k : Nat, k ≤ s.size ∧ i = .int .i64 k) (fun i _ _ _ _ _ _ _ _ _ _ _ _ _ _ _ _ => s.size - (intOf i).toNat)
      case atStart => exact ⟨0, Nat.zero_le _, rfl⟩
      case round =>
        obtain ⟨k, hk, rfl⟩ := hrel
        by_cases hlt : k < s.size
        · have hk1 : (k : Int) < (s.size : Int) := by omega
          have hk2 : (0 : Int) ≤ (k : Int) := by omega
          obtain ⟨x1, x2⟩ := HBY.out k hlt
          have y1 : ¬ ((s[k].toNat : Int) < 32) := by omega
          have y2 : ¬ (126 < (s[k].toNat : Int)) := by omega
          clear x1 x2
          go_wp2_with fail
          go_round
          case rel => exact ⟨k + 1, by omega, by go_num⟩
          case measure => simp [intOf]; omega
        · have hk1 : ¬ (k : Int) < (s.size : Int) := by omega
          have e0 : (0 : Int) < (s.size : Int) := by omega
          have e1 : ((s.size : Int) - 1).toNat = s.size - 1 := by omega
          have e2 : (0 : Int) ≤ (s.size : Int) - 1 := by omega
          have e3 : (s.size : Int) - 1 < (s.size : Int) := by omega
          have e4 : (s.size : Int) ≤ 900 := by omega
          have y1 : ((s[0].toNat : Int) == 32) = false := by simp; omega
          have y2 : ((s[0].toNat : Int) != 32) = true := by simp; omega
          have y3 : (((s[s.size - 1]'(by omega)).toNat : Int) == 32) = false := by simp; omega
          have y4 : (((s[s.size - 1]'(by omega)).toNat : Int) != 32) = true := by simp; omega
          go_wp2_with fail
          all_goals
            go_ret
            exact ⟨rfl, G4.out⟩
    · have hne : (er != 0) = true := by simp [he]
      clear HF he
      go_wp2_with fail
      go_ret
      exact ⟨rfl, G4.out⟩
end Go.Proofs.YtcdcmohccbhchaaGreatDoor

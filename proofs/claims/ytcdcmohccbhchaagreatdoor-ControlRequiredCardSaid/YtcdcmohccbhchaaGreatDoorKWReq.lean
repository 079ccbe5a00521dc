/- The law ControlRequired: for every command it returns true. -/
import Derived.Test.YtcdcmohccbhchaaGreatDoorBH
namespace Go.Proofs.YtcdcmohccbhchaaGreatDoor
open Go.RowKit

theorem req_get {S : ByteArray} {pre last : Str} (h : S = bs (pre ++ 32 :: last)) (hl : (32 : UInt8) ∉ last) (k : Nat) (h1 : pre.length ≤ k) (h2 : k < S.size) : (S[k].toNat = 32 ↔ k = pre.length) := by
  subst h
  have hk : k < (pre ++ 32 :: last).length := h2
  show ((pre ++ 32 :: last)[k]'hk).toNat = 32 ↔ _
  rw [List.getElem_append_right h1]
  constructor
  · intro h
    by_cases hk0 : k = pre.length
    · exact hk0
    · exfalso
      have : (32 :: last)[k - pre.length]'(by rw [List.length_append] at hk; simp at hk ⊢; omega) = 32 := UInt8.toNat_inj.1 h
      obtain ⟨j, hj⟩ : ∃ j, k - pre.length = j + 1 := ⟨k - pre.length - 1, by omega⟩
      have hm : (32 :: last)[k - pre.length]'(by rw [List.length_append] at hk; simp at hk ⊢; omega) ∈ last := by
        simp only [hj, List.getElem_cons_succ]
        exact List.getElem_mem _
      rw [this] at hm
      exact hl hm
  · intro h; simp [h]
theorem req_cut {S : ByteArray} {pre last : Str} (h : S = bs (pre ++ 32 :: last)) : S.extract 0 pre.length = bs pre := by
  subst h
  apply ByteArray.ext
  rw [ByteArray.data_extract]
  simp [bs]
theorem req_more {S : ByteArray} {s : Str} (h : S = bs s) : S ++ ⟨#[32, 109, 111, 114, 101]⟩ = bs (s ++ 32 :: moreT) := by
  subst h
  apply ByteArray.ext
  simp [bs, moreT]
set_option maxRecDepth 100000 in
set_option maxHeartbeats 4000000 in
theorem wRequired (a : Cm) (va : Value) (w : World) (hT : Tabs w) (ha : AutsAt w va a.mods) :
    Calls Tryz.prog 10 #[.agg (cmC a va).toArray] w fun e w' => e = .returned (.bool true) ∧ Gr w w' := by
  have g0 := (Gr.refl w).alloc (.cells (cmC a va).toArray 26)
  have hb0 : CmB (w.alloc (.cells (cmC a va).toArray 26)) w.heap.size 26 a va := heap_alloc_new w _
  have HSA : Hid (∀ W, Gr w W → Calls Tryz.prog 13 #[.agg (cmC a va).toArray] W fun e w' => e = .returned (.bool (smallB a)) ∧ Gr W w') := fun W h => smallC a va W (ha.gr h)
  have HKN : Hid (∀ W, Gr w W → Calls Tryz.prog 12 #[] W fun e w' => e = .returned (.bool true) ∧ Gr W w') := fun W h => knownC W (hT.env.gr h)
  have HOA : Hid (smallB a = true → ∀ W, Gr w W → Calls Tryz.prog 15 #[.agg (cmC a va).toArray] W fun e w' => ∃ x n k, e = .returned (.agg (cmC a (.slice x n k)).toArray) ∧ AutsAt w' (.slice x n k) a.mods ∧ Gr W w') := fun hs W h => ownC a a.mods va W (ha.gr h) (Nat.le_trans (small_mods hs).1 (by decide))
  have HPR : Hid (smallB a = true → ∀ W x, Gr w W → AutsAt W x a.mods → Calls Tryz.prog 14 #[.agg (cmC a x).toArray] W fun e w' => e = .returned (.tuple #[.string (bs (prS a)), .int .i64 (cmErr a)]) ∧ Gr W w') := fun hs W x h1 h2 => printC a x W (hT.gr h1) h2 (Nat.le_trans (small_mods hs).1 (by decide)) (by have := (small_mods hs).2; omega)
  have HPZ : ∀ (S : ByteArray) (k : Nat) (er : Int), parseS (bl S) = (cm0 0, k, er) → Hid (∀ W, Gr w W → Calls Tryz.prog 19 #[.string S] W fun e w' => ∃ x n l, e = .returned (.tuple #[.agg (cmC (cm0 0) (.slice x n l)).toArray, .int .i64 (k : Int), .int .i64 er]) ∧ AutsAt w' (.slice x n l) (cm0 0).mods ∧ Gr W w') := fun S k er he W h => by
    have hp := parseAll S W (hT.env.gr h) (hT.alph.gr h) (env_lt (hT.env.gr h))
    rw [he] at hp
    refine hp.mono ?_
    rintro e w' ⟨v, he, hv, hg⟩
    obtain ⟨x, k, hx, hr⟩ := hv
    subst hx
    exact ⟨x, _, k, he, ⟨x, k, rfl, hr⟩, hg⟩
  have HQ0 : Hid (∀ W x, AutsAt W x (cm0 0).mods → Calls Tryz.prog 23 #[.agg (cmC (cm0 0) x).toArray, .agg (cmC (cm0 0) nilV).toArray] W fun e w' => e = .returned (.bool true) ∧ Gr W w') := fun W x h => by
    have := eqlC (cm0 0) (cm0 0) x nilV W h (nil_auts W) (by decide)
    rwa [decide_eq_true (rfl : cm0 0 = cm0 0)] at this
  have HRQ : Hid (cmErr a = 0 → a.kind ≠ 3 → ∃ pre last : Str, bs (prS a) = bs (pre ++ 32 :: last) ∧ (32 : UInt8) ∉ last ∧ parseS pre = (cm0 0, pre.length, 4) ∧ parseS (bl (bs (prS a)) ++ 32 :: moreT) = (cm0 0, (bs (prS a)).size, 5) ∧ (bs (prS a)).size ≤ 900) := fun he h3 => by
    obtain ⟨pre, last, e1, e2, e3, e4⟩ := req_all he h3
    have hp : prS a = printS a := by unfold prS; rw [if_pos he]
    have hl := (print_fld he).2
    rw [hp, bl_bs, bs_size]
    exact ⟨pre, last, by rw [e1], e2, e3, e4, hl⟩
  have B0 := Lib.hid hb0
  have G0 := Lib.hid g0
  clear g0 hb0 ha hT
  generalize hsa : smallB a = sa at *
  generalize bs (prS a) = s at *
  generalize cmErr a = er at *
  clear hsa
  go_enter Tryz.func10, Tryz.ntmps10
  go_wp2_with fail
  refine (HKN.out _ G0.out).mono ?_
  rintro e w1 ⟨rfl, hg1⟩
  have B1 := Lib.hid (B0.out.gr hg1)
  obtain ⟨r1, q1⟩ := B1.out.rows
  have G1 := Lib.hid (G0.out.trans hg1)
  clear hg1 B0 G0
  go_wp2_with fail
  refine (HSA.out _ G1.out).mono ?_
  rintro e w2 ⟨rfl, hg2⟩
  have B2 := Lib.hid (B1.out.gr hg2)
  have G2 := Lib.hid (G1.out.trans hg2)
  have c0 : w2.cell? ⟨w.heap.size, 0, none⟩ = some (.int .i64 a.kind) := cell_of_row w2 w.heap.size 0 _ _ _ B2.out
  clear hg2 B1 G1 r1 q1
  cases sa with
  | false =>
    go_wp2_with (go_at_call 12; refine (HKN.out _ G2.out).mono ?_; rintro e w3 ⟨rfl, hg3⟩)
    go_ret
    exact ⟨rfl, G2.out.trans hg3⟩
  | true =>
    have OA := Lib.hid (HOA.out (by first | rfl | trivial))
    have PR := Lib.hid (HPR.out (by first | rfl | trivial))
    clear HOA HPR HSA
    by_cases h3 : a.kind = 3
    · rw [h3] at c0
      go_wp2_with (go_at_call 12; refine (HKN.out _ G2.out).mono ?_; rintro e w3 ⟨rfl, hg3⟩)
      go_ret
      exact ⟨rfl, G2.out.trans hg3⟩
    · have k3 : (a.kind == 3) = false := by simp [h3]
      obtain ⟨r1, q1⟩ := B2.out.rows
      clear HKN
      go_wp2_with fail
      refine (OA.out _ G2.out).mono ?_
      rintro e w3 ⟨x, n, k, rfl, hv, hg3⟩
      have G3 := Lib.hid (G2.out.trans hg3)
      have HPP := Lib.hid (PR.out _ _ G3.out hv)
      clear hg3 hv r1 q1 PR G2 B2 OA c0
      go_wp2_with fail
      refine HPP.out.mono ?_
      rintro e w4 ⟨rfl, hg4⟩
      have G4 := Lib.hid (G3.out.trans hg4)
      clear hg4 HPP G3
      by_cases he : er = 0
      · obtain ⟨pre, last, hS, hlast, hp1, hp2, hs9⟩ := HRQ.out he h3
        subst he
        have hsz : pre.length + 1 ≤ s.size := by rw [hS, bs_size, List.length_append, List.length_cons]; omega
        have HGT : Hid (∀ k (h2 : k < s.size), pre.length ≤ k → (s[k].toNat = 32 ↔ k = pre.length)) := fun k h2 h1 => req_get hS hlast k h1 h2
        have HCU : Hid (s.extract 0 pre.length = bs pre) := req_cut hS
        have HMO := Lib.hid (req_more (S := s) (s := bl s) rfl)
        have P1 := HPZ (bs pre) pre.length 4 (by rw [bl_bs]; exact hp1)
        have P2 := HPZ (bs (bl s ++ 32 :: moreT)) s.size 5 (by rw [bl_bs]; exact hp2)
        have hml : Hid ((bs (bl s ++ 32 :: moreT)).size = s.size + 5) := by show _ = _; rw [bs_size, List.length_append, bl_length]; rfl
        generalize bs (bl s ++ 32 :: moreT) = S2 at *
        generalize bs pre = S1 at *
        generalize hpl : pre.length = m at *
        clear HRQ HPZ h3 k3 hS hlast hp1 hp2 hpl
        go_wp2_with fail
        go_loop [5, 35, 36, 37, 38, 39, 40, 41, 42, 43, 44, 45] (fun i _ _ _ _ _ _ _ _ _ _ _ => ∃ k : Nat, m + 1 ≤ k ∧ k ≤ s.size ∧ i = .int .i64 k) (fun i _ _ _ _ _ _ _ _ _ _ _ => (intOf i).toNat)
        case atStart => exact ⟨s.size, by omega, Nat.le_refl _, rfl⟩
        case round =>
          obtain ⟨k, hk1, hk2, rfl⟩ := hrel
          have i0 : (0 : Int) < (k : Int) := by omega
          have i1 : ((k : Int) - 1).toNat = k - 1 := by omega
          have i2 : (0 : Int) ≤ (k : Int) - 1 := by omega
          have i3 : (k : Int) - 1 < (s.size : Int) := by omega
          have hkl : k - 1 < s.size := by omega
          have hget := HGT.out (k - 1) hkl (by omega)
          by_cases hkm : k = m + 1
          · subst hkm
            have hml2 : m < s.size := by omega
            have y0 := (HGT.out m hml2 (Nat.le_refl _)).2 rfl
            have y1 : (((s[m]'hml2).toNat : Int) == 32) = true := by simp; omega
            have y2 : (((s[m]'hml2).toNat : Int) != 32) = false := by simp; omega
            clear hget HGT y0
            clear hk1 hk2 i0 i1 i2 i3
            have n1 : ¬ 9223372036854775807 < s.size + 5 := by omega
            have hm1 : (m : Int) + 1 - 1 = (m : Int) := by omega
            go_wp2_with fail
            rw [HCU.out]
            refine (P1.out _ G4.out).mono ?_
            rintro e w5 ⟨x5, n5, k5, rfl, hv5, hg5⟩
            have G5 := Lib.hid (G4.out.trans hg5)
            have g6 := (Gr.refl w5).alloc (.cells (cmC (cm0 0) (.slice x5 n5 k5)).toArray 37)
            have B6 : Hid (CmB (w5.alloc (.cells (cmC (cm0 0) (.slice x5 n5 k5)).toArray 37)) w5.heap.size 37 (cm0 0) (.slice x5 n5 k5)) := heap_alloc_new w5 _
            have V6 := Lib.hid (hv5.gr g6)
            have G6 := Lib.hid (G5.out.trans g6)
            clear g6 hg5 hv5 G4 G5 P1 HCU y1 y2
            go_wp2_with fail
            rw [HMO.out]
            refine (P2.out _ G6.out).mono ?_
            rintro e w7 ⟨x7, n7, k7, rfl, hv7, hg7⟩
            have g8 := (Gr.refl w7).alloc (.cells (cmC (cm0 0) (.slice x7 n7 k7)).toArray 37)
            have B8 := Lib.hid ((B6.out.gr hg7).gr g8)
            have V8 := Lib.hid ((V6.out.gr hg7).gr g8)
            have C8 : Hid (CmB (w7.alloc (.cells (cmC (cm0 0) (.slice x7 n7 k7)).toArray 37)) w7.heap.size 37 (cm0 0) (.slice x7 n7 k7)) := heap_alloc_new w7 _
            have U8 := Lib.hid (hv7.gr g8)
            have G8 := Lib.hid ((G6.out.trans hg7).trans g8)
            obtain ⟨r1, q1⟩ := B8.out.rows
            clear g8 hg7 hv7 B6 V6 G6 P2 HMO
            go_wp2_with fail
            refine (HQ0.out _ _ V8.out).mono ?_
            rintro e w9 ⟨rfl, hg9⟩
            have C9 := Lib.hid (C8.out.gr hg9)
            have U9 := Lib.hid (U8.out.gr hg9)
            have G9 := Lib.hid (G8.out.trans hg9)
            obtain ⟨r2, q2⟩ := C9.out.rows
            clear r1 q1 hg9 B8 V8 C8 U8 G8
            go_wp2_with fail
            refine (HQ0.out _ _ U9.out).mono ?_
            rintro e w10 ⟨rfl, hg10⟩
            have G10 := Lib.hid (G9.out.trans hg10)
            clear r2 q2 hg10 C9 U9 G9
            go_wp2_with fail
            go_ret
            exact ⟨rfl, G10.out⟩
          · have y1 : (((s[k - 1]'hkl).toNat : Int) == 32) = false := by simp; intro h; have := hget.1 (by omega); omega
            have y2 : (((s[k - 1]'hkl).toNat : Int) != 32) = true := by simp; intro h; have := hget.1 (by omega); omega
            clear hget HGT
            go_wp2_with fail
            go_round
            case rel => exact ⟨k - 1, by omega, by omega, by go_num⟩
            case measure => simp [intOf]; omega
      · have hne : (er != 0) = true := by simp [he]
        clear HRQ he
        go_wp2_with fail
        go_ret
        exact ⟨rfl, G4.out⟩
end Go.Proofs.YtcdcmohccbhchaaGreatDoor

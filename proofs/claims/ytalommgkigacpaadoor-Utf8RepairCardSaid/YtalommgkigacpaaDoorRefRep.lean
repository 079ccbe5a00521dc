/- The contract of the reference's Repair: it returns what utf8.Repair does. -/
import Derived.Test.YtalommgkigacpaaDoorRefEnc
namespace Go.Proofs.YtalommgkigacpaaDoor
open Go.RowKit

theorem bl_mid (s : ByteArray) (a k : Nat) : bl (s.extract a (a + k)) = ((bl s).drop a).take k := by
  rw [bl_extract, Nat.add_sub_cancel_left]
theorem mid_size (s : ByteArray) (a k : Nat) (h : a + k ≤ s.size) : (s.extract a (a + k)).size = k := by
  rw [← bl_length, bl_mid, List.length_take, List.length_drop, bl_length]; omega

/-- Where the bytes are no whole encoding: what the reference's tests say. -/
theorem beg_bad (l : List UInt8) (hl : l ≠ []) (j : Nat) (h1 : 1 ≤ j) (h2 : j ≤ l.length) (h4 : j ≤ 4) : begB (l.take j) = true ↔ j ≤ measN l := by
  rcases l with _ | ⟨a, t⟩
  · exact absurd rfl hl
  · exact beg_take a t j h1 (by simpa using h2) h4
theorem beg_more (l : List UInt8) (hb : measB l = false) (j : Nat) (h1 : 1 ≤ j) (h2 : j ≤ measN l) : (j : Int) < begN (l.take j) ∧ measN l ≤ 3 := by
  have h4 := measN_le4 l
  have hle := measN_le l
  rcases l with _ | ⟨a, t⟩
  · simp [measN] at h2; omega
  have hz : lenZ (bz a) ≠ 0 := by intro e; simp [measN, e] at h2; omega
  have hbb := (beg_take a t j h1 (by simp at hle; omega) (by omega)).2 h2
  have hsz : (measN (a :: t) : Int) ≤ lenZ (bz a) := by
    have : measN (a :: t) = goOn (bz a) (lenZ (bz a)) 1 t := by simp [measN, hz]
    rw [this]; exact goOn_size _ _ _ _ (by have := len_vals (bz a); omega)
  have hne : ¬ (measN (a :: t) : Int) = lenZ (bz a) := by
    intro e; have : measB (a :: t) = true := (measB_cons a t).2 ⟨hz, e⟩; rw [this] at hb; cases hb
  have e : begN ((a :: t).take j) = leadN (bz a) := by
    unfold begN; rw [if_pos hbb]
    obtain ⟨i, rfl⟩ : ∃ i, j = i + 1 := ⟨j - 1, by omega⟩
    rfl
  rw [e, lead_len _ (bz_lo a) (bz_hi a) hz]
  have := len_vals (bz a)
  omega

theorem rep_good (l : List UInt8) (h : decE l = 0) : rep l = l.take (decN l) ++ rep (l.drop (decN l)) := by
  have hm := (decE_zero l h).1
  have : decN l = measN l := by simp [decN, hm]
  rw [this]; exact rep_whole l hm
theorem bad_meas (l : List UInt8) (hl : l ≠ []) (h : decE l ≠ 0) : measB l = false := by
  cases hb : measB l with
  | false => rfl
  | true => exact absurd (by simp [decE, hl, hb]) h
theorem enc_repl : strOfNums (encZ 65533) = ⟨#[239, 191, 189]⟩ := by decide +kernel

set_option maxHeartbeats 2000000 in
set_option maxRecDepth 100000 in
theorem refRep_core (s : ByteArray) (w : World) (hs : s.size ≤ 1000000) (OUT : List UInt8) (hO : Hid (OUT = rep (bl s))) :
    Calls Tryd.prog 25 #[.string s] w fun e w' => e = .returned (.string ⟨OUT.toArray⟩) ∧ Gr w w' := by
  go_enter Tryd.func25, Tryd.ntmps25
  go_wp2_with fail
  go_loopw [3, 4, 5, 6, 7, 8, 9, 10, 11, 12, 13, 14] (fun u3 u4 _ _ _ _ _ _ _ _ _ _ wr => ∃ (o : ByteArray) (k : Nat), k ≤ s.size ∧ o.size ≤ 3 * k ∧ u3 = .string o ∧ u4 = .int .i64 k ∧ Hid (OUT = bl o ++ rep ((bl s).drop k)) ∧ Gr w wr) (fun _ u4 _ _ _ _ _ _ _ _ _ _ _ => s.size - (intOf u4).toNat)
  case atStart => exact ⟨⟨#[]⟩, 0, Nat.zero_le _, Nat.le_refl _, rfl, rfl, hO, Gr.refl _⟩
  case round =>
    obtain ⟨o, k, hk, ho, rfl, rfl, kO, hg⟩ := hrel
    clear hO
    by_cases c : k < s.size
    · have hne : (bl s).drop k ≠ [] := by rw [bl_drop s k c]; simp
      by_cases d : decE ((bl s).drop k) = 0
      · have hn1 := decN_pos _ d
        have hn2 := decN_le ((bl s).drop k)
        rw [List.length_drop, bl_length] at hn2
        have kO' : Hid (OUT = (bl o ++ ((bl s).drop k).take (decN ((bl s).drop k))) ++ rep ((bl s).drop (k + decN ((bl s).drop k)))) := by
          have := kO.out; rw [rep_good _ d, List.drop_drop, ← List.append_assoc] at this; exact this
        have D := Lib.hid d
        clear d kO hne
        go_wp2_with fail
        refine (first_dec_any _ _ (by rw [from_size]; omega) (by rw [from_size]; omega)).mono ?_
        rintro e w' ⟨rfl, hg'⟩
        rw [bl_from, D.out]
        clear D
        generalize decR ((bl s).drop k) = R at *
        generalize decN ((bl s).drop k) = n at *
        have hmid := Lib.hid (bl_mid s k n)
        have hms := Lib.hid (mid_size s k n (by omega))
        go_wp2_with fail
        go_roundw
        case rel => exact ⟨_, k + n, by omega, by rw [ByteArray.size_append, hms.out]; omega, rfl, by go_num, by rw [bl_append, hmid.out]; exact kO', hg.trans hg'⟩
        case measure => simp [intOf]; omega
      · have hb := bad_meas _ hne d
        have kO' : Hid (OUT = (bl o ++ [239, 191, 189]) ++ rep ((bl s).drop (k + max (measN ((bl s).drop k)) 1))) := by
          have := kO.out; rw [rep_bad _ hne hb, List.drop_drop, ← List.append_assoc] at this; exact this
        have D : (decE ((bl s).drop k) == 0) = false := by simpa using d
        have hml := measN_le ((bl s).drop k)
        rw [List.length_drop, bl_length] at hml
        have hB := Lib.hid (beg_bad _ hne)
        have hM := Lib.hid (beg_more _ hb)
        clear d kO hne hb
        go_wp2_with fail
        refine (first_dec_any _ _ (by rw [from_size]; omega) (by rw [from_size]; omega)).mono ?_
        rintro e w' ⟨rfl, hg'⟩
        rw [bl_from]
        generalize decR ((bl s).drop k) = R at *
        generalize decN ((bl s).drop k) = n at *
        generalize decE ((bl s).drop k) = E at *
        have hgg := hg.trans hg'
        clear hg hg'
        generalize hmm : measN ((bl s).drop k) = m at *
        clear hmm
        go_wp2_with fail
        obtain ⟨wo, rfl⟩ : ∃ wo : World, wo = w' := ⟨_, rfl⟩
        go_loopw [6, 8, 9, 10, 11] (fun u6 u8 _ _ _ wi => ∃ (j : Nat), 2 ≤ j ∧ j ≤ 4 ∧ u8 = .int .i64 j ∧ u6 = .int .i64 (max 1 (min m (j - 1)) : Nat) ∧ Gr wo wi) (fun _ u8 _ _ _ _ => 4 - (intOf u8).toNat)
        case atStart => exact ⟨2, by omega, by omega, rfl, by rw [show max 1 (min m (2 - 1)) = 1 by omega]; rfl, Gr.refl _⟩
        case round =>
          obtain ⟨j, hj1, hj2, rfl, rfl, hgi⟩ := hrel
          by_cases e1 : j ≤ 3
          · by_cases e2 : k + j ≤ s.size
            · by_cases e3 : j ≤ m
              · have g1 : begB (((bl s).drop k).take j) = true := (hB.out j (by omega) (by rw [List.length_drop, bl_length]; omega) (by omega)).2 e3
                have g2 := (hM.out j (by omega) e3).1
                have G1 := Lib.hid g1
                have e4 : max 1 (min m (j - 1)) = j - 1 := by omega
                have z1 := mid_size s k j e2
                have Z1 := Lib.hid z1
                have Z2 := Lib.hid (bl_mid s k j)
                clear g1 z1
                rw [e4]
                clear e4
                go_wp2_with fail
                refine (begins_any _ _ (by rw [Z1.out]; omega) (by rw [Z1.out]; omega)).mono ?_
                rintro e w2 ⟨rfl, hg2⟩
                rw [Z2.out, G1.out]
                generalize begV (((bl s).drop k).take j) = vv at *
                generalize begN (((bl s).drop k).take j) = nn at *
                have q1 : (((j - 1 : Nat) : Int) == (j : Int) - 1) = true := by simp; omega
                go_wp2_with fail
                go_roundw
                case rel => exact ⟨j + 1, by omega, by omega, by go_num, by rw [show max 1 (min m (j + 1 - 1)) = j by omega], hgi.trans hg2⟩
                case measure => simp [intOf]; omega
              · have g1 : begB (((bl s).drop k).take j) = false := by
                  have := mt (hB.out j (by omega) (by rw [List.length_drop, bl_length]; omega) (by omega)).1 e3
                  simpa using this
                have G1 := Lib.hid g1
                have z1 := mid_size s k j e2
                have Z1 := Lib.hid z1
                have Z2 := Lib.hid (bl_mid s k j)
                clear g1 z1
                have e4 : max 1 (min m (j - 1)) = max 1 (min m j) := by omega
                rw [e4]
                clear e4
                go_wp2_with fail
                refine (begins_any _ _ (by rw [Z1.out]; omega) (by rw [Z1.out]; omega)).mono ?_
                rintro e w2 ⟨rfl, hg2⟩
                rw [Z2.out, G1.out]
                generalize begV (((bl s).drop k).take j) = vv at *
                generalize begN (((bl s).drop k).take j) = nn at *
                go_wp2_with fail
                go_roundw
                case rel => exact ⟨j + 1, by omega, by omega, by go_num, by rw [show j + 1 - 1 = j by omega], hgi.trans hg2⟩
                case measure => simp [intOf]; omega
            · have hNN : max 1 (min m (j - 1)) = max m 1 := by
                rcases Nat.eq_zero_or_pos m with hm0 | hm0
                · omega
                · have := (hM.out 1 (by omega) (by omega)).2
                  omega
              rw [hNN]
              clear hNN
              have z1 := mid_size s k 1 (by omega)
              have Z1 := Lib.hid z1
              have Z2 := Lib.hid (bl_mid s k 1)
              clear z1
              have hG := hgg.trans hgi
              by_cases hm1 : 1 ≤ m
              · have g1 : begB (((bl s).drop k).take 1) = true := (hB.out 1 (by omega) (by rw [List.length_drop, bl_length]; omega) (by omega)).2 hm1
                have G1 := Lib.hid g1
                clear g1
                rw [show max m 1 = m by omega] at kO' ⊢
                go_wp2_with fail
                refine (begins_any _ _ (by rw [Z1.out]; omega) (by rw [Z1.out]; omega)).mono ?_
                rintro e w2 ⟨rfl, hg2⟩
                rw [Z2.out, G1.out]
                generalize begV (((bl s).drop k).take 1) = vv at *
                generalize begN (((bl s).drop k).take 1) = nn at *
                go_wp2_with fail
                refine (refEnc_any 65533 _ (by decide)).mono ?_
                rintro e w3 ⟨v, rfl, hv, hg3⟩
                have hcv := conv_own w3 _ v _ hv (encZ_ne 65533)
                rw [enc_repl] at hcv
                clear hv
                have o3 : Hid ((⟨#[239, 191, 189]⟩ : ByteArray).size = 3) := rfl
                go_wp2_with fail
                go_roundw
                case rel => exact ⟨_, k + m, by omega, by rw [ByteArray.size_append, o3.out]; omega, rfl, by go_num, by rw [bl_append]; exact kO', (hG.trans hg2).trans hg3⟩
                case measure => simp [intOf]; omega
              · have g1 : begB (((bl s).drop k).take 1) = false := by
                  have := mt (hB.out 1 (by omega) (by rw [List.length_drop, bl_length]; omega) (by omega)).1 hm1
                  simpa using this
                have G1 := Lib.hid g1
                clear g1
                rw [show max m 1 = 1 by omega] at kO' ⊢
                go_wp2_with fail
                refine (begins_any _ _ (by rw [Z1.out]; omega) (by rw [Z1.out]; omega)).mono ?_
                rintro e w2 ⟨rfl, hg2⟩
                rw [Z2.out, G1.out]
                generalize begV (((bl s).drop k).take 1) = vv at *
                generalize begN (((bl s).drop k).take 1) = nn at *
                go_wp2_with fail
                refine (refEnc_any 65533 _ (by decide)).mono ?_
                rintro e w3 ⟨v, rfl, hv, hg3⟩
                have hcv := conv_own w3 _ v _ hv (encZ_ne 65533)
                rw [enc_repl] at hcv
                clear hv
                have o3 : Hid ((⟨#[239, 191, 189]⟩ : ByteArray).size = 3) := rfl
                go_wp2_with fail
                go_roundw
                case rel => exact ⟨_, k + 1, by omega, by rw [ByteArray.size_append, o3.out]; omega, rfl, by go_num, by rw [bl_append]; exact kO', (hG.trans hg2).trans hg3⟩
                case measure => simp [intOf]; omega
          · have hNN : max 1 (min m (j - 1)) = max m 1 := by
              rcases Nat.eq_zero_or_pos m with hm0 | hm0
              · omega
              · have := (hM.out 1 (by omega) (by omega)).2
                omega
            rw [hNN]
            clear hNN
            have z1 := mid_size s k 1 (by omega)
            have Z1 := Lib.hid z1
            have Z2 := Lib.hid (bl_mid s k 1)
            clear z1
            have hG := hgg.trans hgi
            by_cases hm1 : 1 ≤ m
            · have g1 : begB (((bl s).drop k).take 1) = true := (hB.out 1 (by omega) (by rw [List.length_drop, bl_length]; omega) (by omega)).2 hm1
              have G1 := Lib.hid g1
              clear g1
              rw [show max m 1 = m by omega] at kO' ⊢
              go_wp2_with fail
              refine (begins_any _ _ (by rw [Z1.out]; omega) (by rw [Z1.out]; omega)).mono ?_
              rintro e w2 ⟨rfl, hg2⟩
              rw [Z2.out, G1.out]
              generalize begV (((bl s).drop k).take 1) = vv at *
              generalize begN (((bl s).drop k).take 1) = nn at *
              go_wp2_with fail
              refine (refEnc_any 65533 _ (by decide)).mono ?_
              rintro e w3 ⟨v, rfl, hv, hg3⟩
              have hcv := conv_own w3 _ v _ hv (encZ_ne 65533)
              rw [enc_repl] at hcv
              clear hv
              have o3 : Hid ((⟨#[239, 191, 189]⟩ : ByteArray).size = 3) := rfl
              go_wp2_with fail
              go_roundw
              case rel => exact ⟨_, k + m, by omega, by rw [ByteArray.size_append, o3.out]; omega, rfl, by go_num, by rw [bl_append]; exact kO', (hG.trans hg2).trans hg3⟩
              case measure => simp [intOf]; omega
            · have g1 : begB (((bl s).drop k).take 1) = false := by
                have := mt (hB.out 1 (by omega) (by rw [List.length_drop, bl_length]; omega) (by omega)).1 hm1
                simpa using this
              have G1 := Lib.hid g1
              clear g1
              rw [show max m 1 = 1 by omega] at kO' ⊢
              go_wp2_with fail
              refine (begins_any _ _ (by rw [Z1.out]; omega) (by rw [Z1.out]; omega)).mono ?_
              rintro e w2 ⟨rfl, hg2⟩
              rw [Z2.out, G1.out]
              generalize begV (((bl s).drop k).take 1) = vv at *
              generalize begN (((bl s).drop k).take 1) = nn at *
              go_wp2_with fail
              refine (refEnc_any 65533 _ (by decide)).mono ?_
              rintro e w3 ⟨v, rfl, hv, hg3⟩
              have hcv := conv_own w3 _ v _ hv (encZ_ne 65533)
              rw [enc_repl] at hcv
              clear hv
              have o3 : Hid ((⟨#[239, 191, 189]⟩ : ByteArray).size = 3) := rfl
              go_wp2_with fail
              go_roundw
              case rel => exact ⟨_, k + 1, by omega, by rw [ByteArray.size_append, o3.out]; omega, rfl, by go_num, by rw [bl_append]; exact kO', (hG.trans hg2).trans hg3⟩
              case measure => simp [intOf]; omega
    · have kO' : Hid (OUT = bl o) := by
        have := kO.out; rw [List.drop_of_length_le (by rw [bl_length]; omega), rep_nil, List.append_nil] at this; exact this
      clear kO
      go_wp2_with fail
      go_ret
      have := kO'.out
      subst this
      exact ⟨congrArg (fun b => Ending.returned (.string b)) (bl_inj rfl), hg⟩

/-- The reference's Repair. -/
theorem refRep_any (s : ByteArray) (w : World) (hs : s.size ≤ 1000000) :
    Calls Tryd.prog 25 #[.string s] w fun e w' => e = .returned (.string ⟨(rep (bl s)).toArray⟩) ∧ Gr w w' := refRep_core s w hs _ rfl
end Go.Proofs.YtalommgkigacpaaDoor

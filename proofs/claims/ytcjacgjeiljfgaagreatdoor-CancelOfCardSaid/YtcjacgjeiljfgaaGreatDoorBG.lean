/- msgid.Parse: ascii.Unhex, msgid.fits. msgid.Parse. What reads the words of a cancellation and of an approval. What reads the text of a definition: rest. What reads a group's mode off the words: mode. What reads the words of a definition. base64.values: the map from characters to their values. base64.Size, base64.data, what takes the groups of base64.Decode. base64.Decode. signer.reader: take, number, end. signer.read, signer.ParsePublic. signer.ParsePublic: what it returns. What reads a key off the words: public; the reader of a key's command. control.Parse, for every text. -/
import Derived.Test.YtcjacgjeiljfgaaGreatDoorBD
import Derived.Test.YtcjacgjeiljfgaaGreatDoorBC
import Derived.Test.YtcjacgjeiljfgaaGreatDoorBE
import Derived.Test.YtcjacgjeiljfgaaGreatDoorBF
import Derived.Test.YtcjacgjeiljfgaaGreatDoorBB
namespace Go.Proofs.YtcjacgjeiljfgaaGreatDoor
open Go.RowKit

theorem hexB_num : ∀ c : UInt8, hexB c = (decide (48 ≤ (c.toNat : Int)) && decide ((c.toNat : Int) ≤ 57) || decide (97 ≤ (c.toNat : Int)) && decide ((c.toNat : Int) ≤ 102)) := all_u8 (by decide +kernel)
set_option maxHeartbeats 1000000 in
theorem asciiDigitC (c : Int) (w : World) : Calls Tryz.prog 166 #[.int .u8 c] w fun e w' => e = .returned (.bool (decide (48 ≤ c) && decide (c ≤ 57))) ∧ w = w' := by
  go_enter Tryz.func166, Tryz.ntmps166
  go_wp2
  all_goals
    go_ret
    refine ⟨ret_bool ?_, rfl⟩
    first | (simp_all; done) | (simp_all; omega)
set_option maxHeartbeats 1000000 in
theorem isDigitC (c : UInt8) (w : World) : Calls Tryz.prog 143 #[.int .u8 (c.toNat : Int)] w fun e w' => e = .returned (.bool (hexB c)) ∧ w = w' := by
  have HB := Lib.hid (hexB_num c)
  generalize hexB c = r at *
  generalize (c.toNat : Int) = n at *
  go_enter Tryz.func143, Tryz.ntmps143
  go_wp2_with (go_at_call 166; refine (asciiDigitC _ _).mono ?_; rintro e w' ⟨rfl, rfl⟩)
  all_goals
    go_ret
    refine ⟨ret_bool ?_, rfl⟩
    rw [HB.out]
    first | (simp_all; done) | (simp_all; omega)
/-- The byte at an offset fits. -/
def fitB (k : Nat) (c : UInt8) : Bool := if k < 1 then c == 60 else if k < 65 then hexB c else c == midTail.getD (k - 65) 0
theorem tail_fin : ∀ i : Fin 6, (⟨#[64, 104, 97, 115, 104, 62]⟩ : ByteArray)[i.val]'(i.isLt) = midTail.getD i.val 0 := by decide +kernel
theorem run_tail (q : Nat) (hq : q < 6) (w : World) : (Instr.index 9 (.string ⟨#[64, 104, 97, 115, 104, 62]⟩) (.int .i64 (q : Int))).run Tryz.prog w = .ok (.int .u8 ((midTail.getD q 0).toNat : Int)) w := by
  rw [run_index_string w 9 _ .i64 _ Tryz.underlying9, dif_pos (by constructor <;> (first | omega | (show (q : Int) < 6; omega)))]
  have h := tail_fin ⟨q, hq⟩
  simp only [Int.toNat_natCast]
  rw [h]
theorem eq_u8 (a b : UInt8) : ((a.toNat : Int) == (b.toNat : Int)) = (a == b) := by
  rw [Bool.eq_iff_iff, beq_iff_eq, beq_iff_eq]
  exact ⟨fun h => UInt8.toNat_inj.1 (by omega), fun h => by rw [h]⟩
set_option maxRecDepth 100000 in
set_option maxHeartbeats 1000000 in
theorem fitsC (k : Nat) (c : UInt8) (w : World) (hk : k < 71) : Calls Tryz.prog 116 #[.int .i64 (k : Int), .int .u8 (c.toNat : Int)] w fun e w' => e = .returned (.bool (fitB k c)) ∧ w = w' := by
  by_cases h1 : k < 1
  · have e : fitB k c = ((c.toNat : Int) == 60) := by unfold fitB; rw [if_pos h1]; exact (eq_u8 c 60).symm
    obtain rfl : k = 0 := by omega
    rw [e]
    generalize (c.toNat : Int) = n at *
    go_enter Tryz.func116, Tryz.ntmps116
    go_wp2_with fail
    go_ret
    exact ⟨rfl, rfl⟩
  · have i1 : ¬ (k : Int) < 1 := by omega
    by_cases h2 : k < 65
    · have e : fitB k c = hexB c := by unfold fitB; rw [if_neg h1, if_pos h2]
      have i2 : (k : Int) < 65 := by omega
      rw [e]
      have HD : Hid (∀ W, Calls Tryz.prog 143 #[.int .u8 (c.toNat : Int)] W fun e w' => e = .returned (.bool (hexB c)) ∧ W = w') := isDigitC c
      go_enter Tryz.func116, Tryz.ntmps116
      go_wp2_with (go_at_call 143; refine (HD.out _).mono ?_; rintro e w' ⟨rfl, rfl⟩)
      go_ret
      exact ⟨rfl, rfl⟩
    · obtain ⟨q, rfl⟩ : ∃ q, k = q + 65 := ⟨k - 65, by omega⟩
      have e : fitB (q + 65) c = ((c.toNat : Int) == ((midTail.getD q 0).toNat : Int)) := by unfold fitB; rw [if_neg h1, if_neg h2, eq_u8, Nat.add_sub_cancel]
      have i2 : ¬ ((q + 65 : Nat) : Int) < 65 := by omega
      have i3 : (((q + 65 : Nat) : Int) - 1 - 64) = (q : Int) := by omega
      have hw1 : IntKind.i64.wrap (((q + 65 : Nat) : Int) - 1) = ((q + 65 : Nat) : Int) - 1 := by rw [IntKind.wrap_i64]; omega
      have hr := run_tail q (by omega)
      have q1 : (q : Int) + 65 - 1 - 64 = (q : Int) := by omega
      have q2 : (q : Int) < 6 := by omega
      rw [e]
      go_enter Tryz.func116, Tryz.ntmps116
      go_wp2_with fail
      go_ret
      exact ⟨rfl, rfl⟩
def HXS : ByteArray := ⟨#[48, 49, 50, 51, 52, 53, 54, 55, 56, 57, 97, 98, 99, 100, 101, 102]⟩
theorem indexHexC (c : UInt8) (W : World) : Calls Tryz.prog 119 #[.string ⟨#[48, 49, 50, 51, 52, 53, 54, 55, 56, 57, 97, 98, 99, 100, 101, 102]⟩, .int .u8 (c.toNat : Int)] W fun e w' => e = .returned (.int .i64 (hexV c)) ∧ w' = W := by
  have h := Tryz.strings_IndexByte ⟨#[48, 49, 50, 51, 52, 53, 54, 55, 56, 57, 97, 98, 99, 100, 101, 102]⟩ (c.toNat : Int) W
  have e : ((c.toNat : Int)).toNat.toUInt8 = c := by simp
  rw [e] at h; exact h
theorem unhex1C (c : UInt8) (w : World) : Calls Tryz.prog 144 #[.int .u8 (c.toNat : Int)] w fun e w' => e = .returned (.bool (hexB c)) ∧ w = w' := by
  have HI : Hid (∀ W, Calls Tryz.prog 119 #[.string ⟨#[48, 49, 50, 51, 52, 53, 54, 55, 56, 57, 97, 98, 99, 100, 101, 102]⟩, .int .u8 (c.toNat : Int)] W fun e w' => e = .returned (.int .i64 (hexV c)) ∧ w' = W) := indexHexC c
  have HB : Hid (hexB c = decide (0 ≤ hexV c)) := rfl
  generalize hexV c = v at *
  generalize (c.toNat : Int) = n at *
  go_enter Tryz.func144, Tryz.ntmps144
  go_wp2_with (go_at_call 119; refine (HI.out _).mono ?_; rintro e w' ⟨rfl, rfl⟩)
  go_ret
  exact ⟨ret_bool HB.out.symm, rfl⟩
theorem unhex2C (c : UInt8) (w : World) (h : hexB c = true) : Calls Tryz.prog 146 #[.int .u8 (c.toNat : Int)] w fun e w' => e = .returned (.int .u8 ((hexN c).toNat : Int)) ∧ w = w' := by
  have HI : Hid (∀ W, Calls Tryz.prog 119 #[.string ⟨#[48, 49, 50, 51, 52, 53, 54, 55, 56, 57, 97, 98, 99, 100, 101, 102]⟩, .int .u8 (c.toNat : Int)] W fun e w' => e = .returned (.int .i64 (hexV c)) ∧ w' = W) := indexHexC c
  obtain ⟨_, h2, h3⟩ := hex_back c h
  have h0 : 0 ≤ hexV c := by unfold hexB at h; simpa using h
  obtain ⟨m, hm, hm2⟩ : ∃ m : Nat, hexV c = (m : Int) ∧ (hexN c).toNat = m := ⟨(hexV c).toNat, by omega, h3⟩
  rw [hm] at HI
  have hw : IntKind.u8.wrap (m : Int) = (m : Int) := by rw [IntKind.wrap_u8]; omega
  rw [hm2]
  clear h h0 h2 h3 hm hm2
  generalize (c.toNat : Int) = n at *
  go_enter Tryz.func146, Tryz.ntmps146
  go_wp2_with (go_at_call 119; refine (HI.out _).mono ?_; rintro e w' ⟨rfl, rfl⟩)
  go_ret
  exact ⟨rfl, rfl⟩
set_option maxRecDepth 100000 in
set_option maxHeartbeats 1000000 in
theorem skipHexC (s : ByteArray) (w : World) (hh : (bl s).all hexB = true) (hs : s.size ≤ 1000000) : Calls Tryz.prog 145 #[.string s, .int .i64 0, .func (.func 144) #[] #[]] w fun e w' => e = .returned (.int .i64 (s.size : Int)) ∧ w = w' := by
  have eg : ∀ args w, (callFunc 144 args).run Tryz.prog w = .ok (.enter 144 args) w := enters_of Tryz.func144 (by kernel_rfl) rfl
  have HB : Hid (∀ k (hk : k < s.size), ∀ W, Calls Tryz.prog 144 #[.int .u8 (s[k].toNat : Int)] W fun e w' => e = .returned (.bool true) ∧ W = w') := fun k hk W => by
    have h := unhex1C s[k] W
    rw [List.all_eq_true.1 hh s[k] (by have e : (bl s)[k]'(by rw [bl_length]; exact hk) = s[k] := rfl
                                       rw [← e]; exact List.getElem_mem _)] at h
    exact h
  clear hh
  go_enter Tryz.func145, Tryz.ntmps145
  go_wp2_with fail
  go_loop [1, 7, 8, 9, 10, 11, 12, 13, 14, 15, 16, 17, 18, 19] (fun i _ _ _ _ _ _ _ _ _ _ _ _ _ => ∃ k : Nat, k ≤ s.size ∧ i = .int .i64 k) (fun i _ _ _ _ _ _ _ _ _ _ _ _ _ => s.size - (intOf i).toNat)
  case atStart => exact ⟨0, Nat.zero_le _, rfl⟩
  case round =>
    obtain ⟨k, hk, rfl⟩ := hrel
    by_cases hlt : k < s.size
    · have hk1 : (k : Int) < (s.size : Int) := by omega
      have hk2 : (0 : Int) ≤ (k : Int) := by omega
      have HK := Lib.hid (HB.out k hlt)
      go_wp2_with (go_at_call 144; refine (HK.out _).mono ?_; rintro e w' ⟨rfl, rfl⟩)
      go_round
      case rel => exact ⟨k + 1, by omega, by go_num⟩
      case measure => simp [intOf]; omega
    · have hk1 : ¬ (k : Int) < (s.size : Int) := by omega
      have hkk : k = s.size := by omega
      subst hkk
      go_wp2_with fail
      go_ret
      exact ⟨rfl, rfl⟩
set_option maxRecDepth 100000 in
set_option maxHeartbeats 4000000 in
theorem unhexC (s : ByteArray) (m : Nat) (w : World) (hs : s.size = 2 * m) (hm : m ≤ 1000) (hh : (bl s).all hexB = true) : Calls Tryz.prog 117 #[.string s] w fun e w' => ∃ v, e = .returned (.tuple #[v, .int .i64 0]) ∧ OwnU w' w.heap.size v (unhex (bl s)) ∧ Gr w w' := by
  have HSK : Hid (∀ W, Calls Tryz.prog 145 #[.string s, .int .i64 0, .func (.func 144) #[] #[]] W fun e w' => e = .returned (.int .i64 (s.size : Int)) ∧ W = w') := fun W => skipHexC s W hh (by omega)
  have eg : ∀ args w, (callFunc 146 args).run Tryz.prog w = .ok (.enter 146 args) w := enters_of Tryz.func146 (by kernel_rfl) rfl
  have HB : Hid (∀ k (hk : k < s.size), ∀ W, Calls Tryz.prog 146 #[.int .u8 (s[k].toNat : Int)] W fun e w' => e = .returned (.int .u8 ((hexN s[k]).toNat : Int)) ∧ W = w') := fun k hk W =>
    unhex2C s[k] W (List.all_eq_true.1 hh s[k] (by have e : (bl s)[k]'(by rw [bl_length]; exact hk) = s[k] := rfl
                                                   rw [← e]; exact List.getElem_mem _))
  have HU : Hid (∀ j, j < m → (hj : 2 * j + 1 < s.size) → (unhex (bl s)).take (j + 1) = (unhex (bl s)).take j ++ [hexN s[2 * j] <<< 4 ||| hexN s[2 * j + 1]] ∧ ((unhex (bl s)).take j).length = j) := fun j hj hj2 => by
    have hl : (unhex (bl s)).length = m := unhex_len m (bl s) (by rw [bl_length]; exact hs)
    have hp := unhex_pair j (bl s) (by rw [bl_length]; exact hj2)
    have g : ∀ k (hk : k < s.size), (bl s).getD k 0 = s[k] := fun k hk => by
      rw [List.getD_eq_getElem?_getD, List.getElem?_eq_getElem (by rw [bl_length]; exact hk)]; rfl
    rw [g _ (by omega), g _ hj2, List.getElem?_eq_getElem (by omega)] at hp
    refine ⟨by rw [List.take_succ_eq_append_getElem (by omega), Option.some.inj hp], by rw [List.length_take]; omega⟩
  have HA : Hid ((unhex (bl s)).take m = unhex (bl s)) := by
    show _ = _; rw [List.take_of_length_le]; rw [unhex_len m (bl s) (by rw [bl_length]; exact hs)]; exact Nat.le_refl _
  have HX : Hid (∀ c : UInt8, (hexN c).toNat < 256) := fun c => (hexN c).toNat_lt
  have HH : Hid (∀ k (hk : k < s.size), (hexN s[k]).toNat < 16) := fun k hk => by
    obtain ⟨_, h2, h3⟩ := hex_back s[k] (List.all_eq_true.1 hh s[k] (by have e : (bl s)[k]'(by rw [bl_length]; exact hk) = s[k] := rfl
                                                                        rw [← e]; exact List.getElem_mem _))
    omega
  have hsi : (s.size : Int) = 2 * (m : Int) := by omega
  have hmk : ∀ w, (Instr.makeSlice 93 (.int .i64 0) (.int .i64 (m : Int))).run Tryz.prog w = .ok (.slice (some ⟨w.heap.size, 0, none⟩) 0 m) (w.alloc (.cells (madeCells #[.int .u8 0] m) 5)) := run_makeU m (by omega)
  have hd2 : (2 * (m : Int)) / 2 = (m : Int) := by omega
  have hr2 : (2 * (m : Int)) % 2 = 0 := by omega
  have HF := Lib.hid (OwnU.fresh w w.heap.size m w.heap.size rfl (Nat.le_refl _) (by omega))
  have HG := Lib.hid ((Gr.refl w).alloc (.cells (madeCells #[.int .u8 0] m) 5))
  clear hh
  go_enter Tryz.func117, Tryz.ntmps117
  go_wp2_with (go_at_call 145; refine (HSK.out _).mono ?_; rintro e w' ⟨rfl, rfl⟩)
  go_loopw [6, 7, 24, 25, 26, 27, 28, 29, 30, 31, 32, 33, 34, 35, 36, 37, 38, 39, 40, 41, 42, 43, 44, 45] (fun v i _ _ _ _ _ _ _ _ _ _ _ _ _ _ _ _ _ _ _ _ _ _ wr => ∃ j : Nat, j ≤ m ∧ i = .int .i64 (2 * (j : Int)) ∧ Hid (Gr w wr) ∧ Hid (OwnU wr w.heap.size v ((unhex (bl s)).take j))) (fun _ i _ _ _ _ _ _ _ _ _ _ _ _ _ _ _ _ _ _ _ _ _ _ _ => 2 * m - (intOf i).toNat)
  case atStart => exact ⟨0, Nat.zero_le _, rfl, HG.out, HF.out⟩
  case round =>
    obtain ⟨j, hj, rfl, hG, hO⟩ := hrel
    by_cases hlt : j < m
    · have hk1 : 2 * (j : Int) < 2 * (m : Int) := by omega
      have hk2 : (0 : Int) ≤ 2 * (j : Int) := by omega
      have hk3 : (0 : Int) ≤ 2 * (j : Int) + 1 := by omega
      have hk4 : 2 * (j : Int) + 1 < 2 * (m : Int) := by omega
      have hn1 : (2 * (j : Int)).toNat = 2 * j := by omega
      have hn2 : (2 * (j : Int) + 1).toNat = 2 * j + 1 := by omega
      have hj1 : 2 * j < s.size := by omega
      have hj2 : 2 * j + 1 < s.size := by omega
      have hwk : IntKind.i64.wrap (2 * (j : Int) + 1) = 2 * (j : Int) + 1 := by rw [IntKind.wrap_i64]; omega
      obtain ⟨hT, hlen⟩ := HU.out j hlt hj2
      have HT := Lib.hid hT.symm
      have HLN := Lib.hid hlen
      have H1 := Lib.hid (HB.out (2 * j) hj1)
      have H2 := Lib.hid (HB.out (2 * j + 1) hj2)
      have hor := or_u8 (hexN s[2 * j]) (hexN s[2 * j + 1]) (HH.out _ hj2)
      have hx1 := (hexN s[2 * j]).toNat_lt
      generalize hexN s[2 * j] <<< 4 ||| hexN s[2 * j + 1] = y at *
      generalize (hexN s[2 * j]).toNat = x1 at *
      generalize (hexN s[2 * j + 1]).toNat = x2 at *
      have hwx : IntKind.u8.wrap ((x1 : Int) * 16) = (x1 : Int) * 16 % 256 := IntKind.wrap_u8 _
      generalize (unhex (bl s)).take j = ds at *
      clear hT hlen
      go_wp2_with fail
      apply wp_toR (R := fun x n W => Hid (Gr w W) ∧ Hid (OwnU W w.heap.size (.slice x (j + 1) n) (ds ++ [y])))
      case h =>
        go_region_held_law (fun _ => True) (trivial)
          (first
            | (go_at_call 146; refine (H1.out _).mono ?_; rintro e w' ⟨rfl, rfl⟩)
            | (go_at_call 146; refine (H2.out _).mono ?_; rintro e w' ⟨rfl, rfl⟩)
            | (refine step_append_u8 rfl 45 rfl (.tmp 30) (.tmp 44) rfl w.heap.size u6 ds (by simp [Act.eval]) (hO.out.gr ((Gr.refl wr).drew.alloc _)) (.slice (some ⟨wr.heap.size, 0, none⟩) 1 1) [y] (by simp [Act.eval]) (OwnU.made (l := [y]) (heap_alloc_new wr.drew _) (by have := hG.out.size; omega) (by simp)) (j + 1) (by rw [HLN.out]; rfl) (by omega) (by have := hG.out.size; simp; omega) ?_; intro a1 c1 w1 ho1 hg1))
        all_goals exact ⟨a1, c1, ⟨((hG.out.drew.alloc _).grown hg1 (fun q hq => (World.ownsRow.lt hO.out q hq).1)), ho1⟩, rfl⟩
      rintro x1' n1 W1 ⟨hG1, hO1⟩
      rw [HT.out] at hO1
      have hn3 : IntKind.i64.wrap (2 * (j : Int) + 2) = 2 * (j : Int) + 2 := by rw [IntKind.wrap_i64]; omega
      clear hor hx1 hwx hwk
      go_wp2_with fail
      go_roundw
      case rel => exact ⟨j + 1, by omega, by go_num, hG1.out, hO1.out⟩
      case measure => simp [intOf]; omega
    · have hk1 : ¬ 2 * (j : Int) < 2 * (m : Int) := by omega
      have hjm : j = m := by omega
      have hOE : Hid (OwnU wr w.heap.size u6 (unhex (bl s))) := by show OwnU _ _ _ _; rw [← HA.out, ← hjm]; exact hO.out
      clear hjm
      go_wp2_with fail
      go_ret2
      exact ⟨u6, rfl, hOE.out, hG.out⟩
end Go.Proofs.YtcjacgjeiljfgaaGreatDoor

namespace Go.Proofs.YtcjacgjeiljfgaaGreatDoor
open Go.RowKit

/-- What msgid.Parse returns. -/
def MidPost (s : Str) (w : World) (e : Ending) (w' : World) : Prop := ∃ at_ er : Int, e = .returned (.tuple #[.agg (bC (midV s)).toArray, .int .i64 at_, .int .i64 er]) ∧ (er = 0 ↔ midB s = true) ∧ Gr w w'
theorem mid_bad {s : Str} (h : midB s = false) : midV s = zId := by unfold midV; rw [if_neg (by rw [h]; decide)]
/-- Every byte fits. -/
theorem mid_iff (s : Str) : midB s = true ↔ s.length = 71 ∧ ∀ k, k < 71 → fitB k (s.getD k 0) = true := by
  constructor
  · intro h
    obtain ⟨h1, h2, h3⟩ := midB_iff h
    refine ⟨h1, fun k hk => ?_⟩
    unfold midB at h
    simp only [Bool.and_eq_true, decide_eq_true_eq] at h
    obtain ⟨⟨⟨_, q1⟩, _⟩, q3⟩ := h
    have q3' : s.drop 65 = midTail := by simpa using q3
    unfold fitB
    by_cases k1 : k < 1
    · rw [if_pos k1]
      obtain rfl : k = 0 := by omega
      rw [List.getD_eq_getElem?_getD, ← List.head?_eq_getElem?]
      cases s with
      | nil => simp at h1
      | cons c s => exact q1
    · rw [if_neg k1]
      by_cases k2 : k < 65
      · rw [if_pos k2]
        have hm : s.getD k 0 ∈ (s.drop 1).take 64 := by
          rw [List.getD_eq_getElem?_getD, List.getElem?_eq_getElem (by omega), Option.getD_some]
          refine List.mem_of_getElem? (i := k - 1) ?_
          rw [List.getElem?_take, if_pos (by omega), List.getElem?_drop, show 1 + (k - 1) = k by omega, List.getElem?_eq_getElem (by omega)]
        exact List.all_eq_true.1 h3 _ hm
      · rw [if_neg k2, ← q3', List.getD_eq_getElem?_getD, List.getD_eq_getElem?_getD, List.getElem?_drop, show 65 + (k - 65) = k by omega]
        simp
  · rintro ⟨h1, h2⟩
    unfold midB
    simp only [Bool.and_eq_true, decide_eq_true_eq]
    have g : ∀ k (hk : k < 71), s.getD k 0 = s[k]'(by omega) := fun k hk => by rw [List.getD_eq_getElem?_getD, List.getElem?_eq_getElem (by omega), Option.getD_some]
    refine ⟨⟨⟨h1, ?_⟩, ?_⟩, ?_⟩
    · have := h2 0 (by decide)
      unfold fitB at this
      rw [if_pos (by decide)] at this
      cases s with
      | nil => simp at h1
      | cons c s => exact this
    · refine List.all_eq_true.2 fun c hc => ?_
      obtain ⟨i, hi⟩ := List.getElem?_of_mem hc
      rw [List.getElem?_take] at hi
      by_cases h64 : i < 64
      · rw [if_pos h64, List.getElem?_drop] at hi
        have := h2 (1 + i) (by omega)
        unfold fitB at this
        rw [if_neg (by omega), if_pos (by omega), List.getD_eq_getElem?_getD, hi, Option.getD_some] at this
        exact this
      · rw [if_neg h64] at hi; cases hi
    · have e : s.drop 65 = midTail := by
        apply List.ext_getElem?
        intro i
        rw [List.getElem?_drop]
        by_cases hi : i < 6
        · have := h2 (65 + i) (by omega)
          unfold fitB at this
          rw [if_neg (by omega), if_neg (by omega), beq_iff_eq, show 65 + i - 65 = i by omega] at this
          have hm : i < midTail.length := hi
          rw [List.getD_eq_getElem?_getD, List.getElem?_eq_getElem (by omega), Option.getD_some, List.getD_eq_getElem?_getD, List.getElem?_eq_getElem hm, Option.getD_some] at this
          rw [List.getElem?_eq_getElem (by omega), List.getElem?_eq_getElem hm, this]
        · have hm : ¬ i < midTail.length := hi
          rw [List.getElem?_eq_none (by omega), List.getElem?_eq_none (by omega)]
      rw [e]; decide
@[go_sem ↓ high] theorem zeroIdV (w : World) : Sem.run Tryz.prog (zeroValue 23) w = .ok (.agg (bC zId).toArray) w := by kernel_rfl
theorem run_arrId (a : Addr) (l c : Nat) (h : 32 ≤ l) (w : World) : (Instr.arrayAt 23 (.slice (some a) l c)).run Tryz.prog w = .ok (.pointer (some a)) w := by
  simp [Instr.arrayAt, run_underlying Tryz.underlying23]
  omega
theorem extract_bl (s : ByteArray) : bl (s.extract 1 65) = ((bl s).drop 1).take 64 := by
  unfold bl
  rw [ByteArray.data_extract, Array.toList_extract, List.extract_eq_take_drop]
set_option maxRecDepth 100000 in
set_option maxHeartbeats 4000000 in
theorem midParseC (s : ByteArray) (w : World) : Calls Tryz.prog 83 #[.string s] w (MidPost (bl s) w) := by
  have hB := heap_alloc_new w (.cells (bC zId).toArray 23)
  have hr := hasRow_block hB 0 32 (by rw [bC_length]; decide)
  have hf := freeRow_block hB 0 32
  have HB0 := Lib.hid (sets_whole (cs := bC zId) hB rfl)
  have g0 := (Gr.refl w).alloc (.cells (bC zId).toArray 23)
  have HG0 := Lib.hid (g0.setsOwn (b := w.heap.size) (Nat.le_refl _) (bC zId) 0)
  have G0 := Lib.hid g0
  have HB := Lib.hid hB
  have HMI := Lib.hid (mid_iff (bl s))
  have hsz := bl_length s
  rw [hsz] at HMI
  have HGD : Hid (∀ k (hk : k < s.size), (bl s).getD k 0 = s[k]) := fun k hk => by
    rw [List.getD_eq_getElem?_getD, List.getElem?_eq_getElem (by rw [bl_length]; exact hk)]; rfl
  clear hB g0 hsz
  go_enter Tryz.func83, Tryz.ntmps83
  go_wp2_with fail
  generalize w.alloc (.cells (bC zId).toArray 23) = W0 at *
  go_loop [5, 10, 11, 12, 13, 14, 15, 16, 17, 18, 21] (fun _ i _ _ _ _ _ _ _ _ _ => ∃ k : Nat, k ≤ min s.size 71 ∧ i = .int .i64 k ∧ Hid (∀ j, j < k → fitB j ((bl s).getD j 0) = true)) (fun _ i _ _ _ _ _ _ _ _ _ => 71 - (intOf i).toNat)
  case atStart => exact ⟨0, Nat.zero_le _, rfl, fun j hj => absurd hj (Nat.not_lt_zero _)⟩
  case round =>
    obtain ⟨k, hk, rfl, hA⟩ := hrel
    by_cases hlt : k < min s.size 71
    · have hks : k < s.size := by omega
      have hk1 : (k : Int) < min (s.size : Int) 71 := by omega
      have hk2 : (0 : Int) ≤ (k : Int) := by omega
      have hk3 : (k : Int) < (s.size : Int) := by omega
      have HF := Lib.hid (fitsC k s[k] · (by omega))
      have hgd := HGD.out k hks
      cases hft : fitB k s[k] with
      | false =>
        have hmb : midB (bl s) = false := by
          cases h : midB (bl s) with
          | false => rfl
          | true =>
            have := (HMI.out.1 h).2 k (by omega)
            rw [hgd, hft] at this; cases this
        have HV := Lib.hid (mid_bad hmb)
        have HMB := Lib.hid hmb
        rw [hft] at HF
        clear hgd hft hmb hA
        go_wp2_with (go_at_call 116; refine (HF.out _).mono ?_; rintro e w' ⟨rfl, rfl⟩)
        refine bodyPost_ret (results_cell_tmp2 (p := 2) (u1 := 3) (u2 := 4) rfl _ _ w.heap.size _ _ _ _ rfl HB0.out Tryz.underlying23 rfl (by rw [List.size_toArray, bC_length]; kernel_rfl)) rfl ?_
        exact ⟨k, 6, by rw [HV.out]; rfl, by rw [HMB.out]; simp, HG0.out⟩
      | true =>
        have HA1 : Hid (∀ j, j < k + 1 → fitB j ((bl s).getD j 0) = true) := fun j hj => by
          by_cases h : j < k
          · exact hA.out j h
          · obtain rfl : j = k := by omega
            rw [hgd]; exact hft
        rw [hft] at HF
        clear hgd hft hA
        go_wp2_with (go_at_call 116; refine (HF.out _).mono ?_; rintro e w' ⟨rfl, rfl⟩)
        go_round
        case rel => exact ⟨k + 1, by omega, by go_num, HA1.out⟩
        case measure => simp [intOf]; omega
    · have hk1 : ¬ (k : Int) < min (s.size : Int) 71 := by omega
      by_cases h71 : s.size = 71
      · have hkk : k = 71 := by omega
        have hmb : midB (bl s) = true := HMI.out.2 ⟨h71, fun j hj => hA.out j (by omega)⟩
        have ht : (s.extract 1 65).size = 2 * 32 := by
          rw [← bl_length, extract_bl, List.length_take, List.length_drop, bl_length, h71]; rfl
        obtain ⟨-, -, hhex⟩ := midB_iff hmb
        have HUN := Lib.hid (unhexC (s.extract 1 65) 32 W0 ht (by decide) (by rw [extract_bl]; exact hhex))
        rw [extract_bl] at HUN
        have hlen : (unhex (((bl s).drop 1).take 64)).length = 32 := unhex_len 32 _ (by rw [← extract_bl, bl_length]; exact ht)
        have hval : bC (midV (bl s)) = (unhex (((bl s).drop 1).take 64)).map cU := by
          unfold midV; rw [if_pos hmb]; unfold bC; rw [vecOf_toList hlen]; rfl
        have HMB := Lib.hid hmb
        have hsi : (s.size : Int) = 71 := by omega
        have hk9 : (k : Int) = 71 := by omega
        obtain ⟨ds, hds⟩ : ∃ ds, unhex (((bl s).drop 1).take 64) = ds := ⟨_, rfl⟩
        rw [hds] at HUN hlen hval
        have HLN := Lib.hid hlen
        have HVL := Lib.hid hval
        clear hkk hmb hA ht hhex hds hlen hval HMI HGD hk hlt h71 hk1
        go_wp2_with fail
        refine HUN.out.mono ?_
        rintro e w2 ⟨v, rfl, hv, hg2⟩
        obtain ⟨g, c, rfl, hc, hg, _, hcell⟩ := hv.cells (by intro e; have := HLN.out; rw [e] at this; cases this)
        have hby : ByAt w2 g 0 ds := ⟨hg, hcell⟩
        obtain ⟨r1, r2⟩ := hby.row (n := 32) HLN.out
        rw [← HVL.out] at r2
        have harr := run_arrId ⟨g, 0, none⟩ 32 c (Nat.le_refl _)
        have b2 := (hg2.block (Array.getElem?_eq_some_iff.1 HB.out).1).trans HB.out
        have u1 := hasRow_block b2 0 32 (by rw [bC_length]; decide)
        have f1 := freeRow_block b2 0 32
        have B2 := Lib.hid (sets_whole (cs := bC (midV (bl s))) b2 (by rw [bC_length, bC_length]))
        have G2 := Lib.hid ((G0.out.trans hg2).setsOwn (b := w.heap.size) (Nat.le_refl _) (bC (midV (bl s))) 0)
        rw [HLN.out] at hc
        simp only [HLN.out]
        have HPST : Hid (∀ W', Gr w W' → MidPost (bl s) w (.returned (.tuple #[.agg (bC (midV (bl s))).toArray, .int .i64 0, .int .i64 0])) W') := fun W' h => ⟨0, 0, rfl, by rw [HMB.out]; simp, h⟩
        generalize midV (bl s) = x at *
        clear b2 hby hcell hv hg2 HUN hr hf HB HB0 HG0
        go_wp2_with fail
        refine bodyPost_ret (results_cell_tmp2 (p := 2) (u1 := 3) (u2 := 4) rfl _ _ w.heap.size _ _ _ _ rfl B2.out Tryz.underlying23 rfl (by rw [List.size_toArray, bC_length]; kernel_rfl)) rfl ?_
        exact HPST.out _ G2.out
      · have hmb : midB (bl s) = false := by
          cases h : midB (bl s) with
          | false => rfl
          | true => exact absurd (HMI.out.1 h).1 h71
        have HV := Lib.hid (mid_bad hmb)
        have HMB := Lib.hid hmb
        clear hmb hA
        by_cases h1 : s.size < 71
        · have h2 : (s.size : Int) < 71 := by omega
          clear h71 hlt hk
          go_wp2_with fail
          refine bodyPost_ret (results_cell_tmp2 (p := 2) (u1 := 3) (u2 := 4) rfl _ _ w.heap.size _ _ _ _ rfl HB0.out Tryz.underlying23 rfl (by rw [List.size_toArray, bC_length]; kernel_rfl)) rfl ?_
          exact ⟨s.size, 4, by rw [HV.out]; rfl, by rw [HMB.out]; simp, HG0.out⟩
        · have h2 : ¬ (s.size : Int) < 71 := by omega
          have h3 : 71 < (s.size : Int) := by omega
          clear h71 hlt hk h1
          go_wp2_with fail
          refine bodyPost_ret (results_cell_tmp2 (p := 2) (u1 := 3) (u2 := 4) rfl _ _ w.heap.size _ _ _ _ rfl HB0.out Tryz.underlying23 rfl (by rw [List.size_toArray, bC_length]; kernel_rfl)) rfl ?_
          exact ⟨71, 5, by rw [HV.out]; rfl, by rw [HMB.out]; simp, HG0.out⟩
@[go_sem ↓ high] theorem st_idV (w : World) (t : TypeId) (b : Nat) (x y : Id) (hb : b = w.heap.size) : (w.alloc (.cells (bC x).toArray t)).setCells b 0 (bC y) = w.alloc (.cells (bC y).toArray t) := by
  have e := setCells_mid w t b hb [] (bC y) [] (bC x) (by rw [bC_length, bC_length])
  simpa using e
theorem grown_setsOwn {w w1 : World} {row : Option Nat} (h : w.grownBy w1 row) {b : Nat} (hb : w.heap.size ≤ b) (l : List Value) (k : Nat) : w.grownBy (w1.setCells b k l) row := grown_sets hb l k w1 h
set_option maxRecDepth 100000 in
set_option maxHeartbeats 4000000 in
theorem targetC (b : Nat) (s : ByteArray) (p : PS) (w : World) (h : PSAt w b s p) (hok : PSok (bl s) p) (hs : s.size ≤ 1000000) (hE : Env w) (hb : 1 < b) :
    Calls Tryz.prog 47 #[.pointer (some ⟨b, 0, none⟩)] w (PSPost b s (p.targetP s.size).1 w (.agg (bC (p.targetP s.size).2).toArray)) := by
  have hz := h.facts.2.2.2.2.2.2
  have g0 := (Gr.refl w).alloc (.cells (bC zId).toArray 23)
  have HN := Lib.hid (nextC b s p _ (h.gr g0) hok hs (hE.gr g0) hb)
  have HB := Lib.hid (heap_alloc_new w (.cells (bC zId).toArray 23))
  have G0 := Lib.hid (grown_gr (row := some b) g0)
  have HF : Hid (p.targetP s.size = if (p.next s.size).2.2 = true then ((p.next s.size).1.fail (p.next s.size).1.start (targetE (p.next s.size).2.1), midV (p.next s.size).2.1) else ((p.next s.size).1, zId)) := rfl
  clear h hok hE g0
  generalize p.next s.size = q at *
  obtain ⟨p1, x, ok⟩ := q
  simp only at HN HF
  cases ok with
  | false =>
    go_enter Tryz.func47, Tryz.ntmps47
    go_wp2_with fail
    refine HN.out.mono ?_
    rintro e w1 ⟨rfl, h1, hg1⟩
    have b1 := grown_block hg1 HB.out (by simp; omega)
    have u1 := hasRow_block b1 0 32 (by rw [bC_length]; decide)
    have f1 := freeRow_block b1 0 32
    have B2 := Lib.hid (sets_whole (cs := bC zId) b1 rfl)
    have H1 := Lib.hid (h1.other (sets_other (b := w.heap.size) (i := b) (by omega) (bC zId) 0 w1))
    have HG1 := Lib.hid (grown_setsOwn (grown_trans G0.out hg1) (b := w.heap.size) (Nat.le_refl _) (bC zId) 0)
    clear h1 hg1 b1 HB G0
    go_wp2_with fail
    refine bodyPost_ret (results_cell_row rfl _ _ w.heap.size _ _ _ _ rfl B2.out Tryz.underlying23 rfl (by rw [List.size_toArray, bC_length]; kernel_rfl)) rfl ?_
    exact ⟨by rw [HF.out]; rfl, by rw [HF.out]; exact H1.out, HG1.out⟩
  | true =>
    have HMP : Hid (∀ W, Calls Tryz.prog 83 #[.string (bs x)] W (MidPost x W)) := fun W => by
      have h := midParseC (bs x) W
      rwa [bl_bs] at h
    have HF2 : Hid (p.targetP s.size = (p1.fail p1.start (targetE x), midV x)) := by show _ = _; rw [HF.out, if_pos rfl]
    have HTE : Hid (targetE x = if midB x = false then 3 else if midV x = zId then 1 else 0) := rfl
    clear HF
    go_enter Tryz.func47, Tryz.ntmps47
    go_wp2_with fail
    refine HN.out.mono ?_
    rintro e w1 ⟨rfl, h1, hg1⟩
    have b1 := grown_block hg1 HB.out (by simp; omega)
    have H1 := Lib.hid h1
    have B1 := Lib.hid b1
    have HG1 := Lib.hid (grown_trans G0.out hg1)
    clear h1 hg1 b1 HB G0 HN
    go_wp2_with fail
    refine (HMP.out _).mono ?_
    rintro e w2 ⟨at_, er, rfl, her, hg2⟩
    have g3 := hg2.trans ((Gr.refl w2).alloc (.cells (bC (midV x)).toArray 23))
    have h3 := H1.out.gr g3
    have b3 := (g3.block (Array.getElem?_eq_some_iff.1 B1.out).1).trans B1.out
    have c3 := heap_alloc_new w2 (.cells (bC (midV x)).toArray 23)
    have HG3 := Lib.hid (grown_trans HG1.out (grown_gr (row := some b) g3))
    have hz2 : w2.heap.size ≠ b := fun e => by have := (Array.getElem?_eq_some_iff.1 H1.out).1; have := hg2.size; omega
    have hz3 : w2.heap.size ≠ w.heap.size := fun e => by have := (Array.getElem?_eq_some_iff.1 B1.out).1; have := hg2.size; omega
    have H3 := Lib.hid h3; have B3 := Lib.hid b3; have C3 := Lib.hid c3; have HER := Lib.hid her
    obtain ⟨d0, d1, d2, d3, d4, _, z3⟩ := h3.facts
    have v1 := hasRow_block c3 0 32 (by rw [bC_length]; decide)
    have v2 := (rowAt_block c3 0 32 (by rw [bC_length]; decide)).trans (rowOf_all _ _ (bC_length (midV x)))
    clear hg2 g3 h3 b3 c3 H1 B1 HG1 her
    by_cases hmb : midB x = false
    · have hne : (er != 0) = true := by
        have : er ≠ 0 := fun e => by have := HER.out.1 e; rw [hmb] at this; cases this
        simp [this]
      have HTX : Hid (targetE x = 3) := by show _ = _; rw [HTE.out, if_pos hmb]
      clear hmb
      go_wp2_with fail
      refine (failC b s p1 p1.start 3 _ H3.out).mono ?_
      rintro e w4 ⟨rfl, h4, hg4⟩
      have b4 := grown_block hg4 B3.out (by simp; omega)
      have c4 := grown_block hg4 C3.out (by simp; omega)
      have u1 := hasRow_block b4 0 32 (by rw [bC_length]; decide)
      have f1 := freeRow_block b4 0 32
      have k1 := hasRow_block c4 0 32 (by rw [bC_length]; decide)
      have k2 := (rowAt_block c4 0 32 (by rw [bC_length]; decide)).trans (rowOf_all _ _ (bC_length (midV x)))
      have B5 := Lib.hid (sets_whole (cs := bC (midV x)) b4 (by rw [bC_length, bC_length]))
      have H5 := Lib.hid (h4.other (sets_other (b := w.heap.size) (i := b) (by omega) (bC (midV x)) 0 w4))
      have HG5 := Lib.hid (grown_setsOwn (grown_trans HG3.out hg4) (b := w.heap.size) (Nat.le_refl _) (bC (midV x)) 0)
      clear h4 hg4 b4 c4 v1 v2 d0 d1 d2 d3 d4 z3
      go_wp2_with fail
      refine bodyPost_ret (results_cell_row rfl _ _ w.heap.size _ _ _ _ rfl B5.out Tryz.underlying23 rfl (by rw [List.size_toArray, bC_length]; kernel_rfl)) rfl ?_
      exact ⟨by rw [HF2.out], by rw [HF2.out, HTX.out]; exact H5.out, HG5.out⟩
    · have hmt : midB x = true := by simpa using hmb
      have her0 := HER.out.2 hmt
      subst her0
      by_cases hzz : midV x = zId
      · have HTX : Hid (targetE x = 1) := by show _ = _; rw [HTE.out, if_neg hmb, if_pos hzz]
        have HIZ : Hid (∀ W, Calls Tryz.prog 32 #[.agg (bC (midV x)).toArray] W fun e w' => e = .returned (.bool true) ∧ Gr W w') := fun W => by
          have h := isZeroC (midV x) W
          rwa [show (midV x == zId) = true by rw [hzz]; exact beq_self_eq_true _] at h
        clear hmb hmt hzz
        go_wp2_with fail
        refine (HIZ.out _).mono ?_
        rintro e w5 ⟨rfl, hg5⟩
        have h5 := H3.out.gr hg5
        have b5 := (hg5.block (Array.getElem?_eq_some_iff.1 B3.out).1).trans B3.out
        have c5 := (hg5.block (Array.getElem?_eq_some_iff.1 C3.out).1).trans C3.out
        have HG6 := Lib.hid (grown_trans HG3.out (grown_gr (row := some b) hg5))
        clear d0 d1 d2 d3 d4 z3 v1 v2 H3 B3 C3 HG3 hg5 HIZ
        have H3 := Lib.hid h5; have B3 := Lib.hid b5; have C3 := Lib.hid c5; have HG3 := HG6
        obtain ⟨d0, d1, d2, d3, d4, _, z3⟩ := h5.facts
        have v1 := hasRow_block c5 0 32 (by rw [bC_length]; decide)
        have v2 := (rowAt_block c5 0 32 (by rw [bC_length]; decide)).trans (rowOf_all _ _ (bC_length (midV x)))
        clear h5 b5 c5 HG6
        go_wp2_with fail
        refine (failC b s p1 p1.start 1 _ H3.out).mono ?_
        rintro e w4 ⟨rfl, h4, hg4⟩
        have b4 := grown_block hg4 B3.out (by simp; omega)
        have c4 := grown_block hg4 C3.out (by simp; omega)
        have u1 := hasRow_block b4 0 32 (by rw [bC_length]; decide)
        have f1 := freeRow_block b4 0 32
        have k1 := hasRow_block c4 0 32 (by rw [bC_length]; decide)
        have k2 := (rowAt_block c4 0 32 (by rw [bC_length]; decide)).trans (rowOf_all _ _ (bC_length (midV x)))
        have B5 := Lib.hid (sets_whole (cs := bC (midV x)) b4 (by rw [bC_length, bC_length]))
        have H5 := Lib.hid (h4.other (sets_other (b := w.heap.size) (i := b) (by omega) (bC (midV x)) 0 w4))
        have HG5 := Lib.hid (grown_setsOwn (grown_trans HG3.out hg4) (b := w.heap.size) (Nat.le_refl _) (bC (midV x)) 0)
        clear h4 hg4 b4 c4 v1 v2 d0 d1 d2 d3 d4 z3
        go_wp2_with fail
        refine bodyPost_ret (results_cell_row rfl _ _ w.heap.size _ _ _ _ rfl B5.out Tryz.underlying23 rfl (by rw [List.size_toArray, bC_length]; kernel_rfl)) rfl ?_
        exact ⟨by rw [HF2.out], by rw [HF2.out, HTX.out]; exact H5.out, HG5.out⟩
      · have HTX : Hid (targetE x = 0) := by show _ = _; rw [HTE.out, if_neg hmb, if_neg hzz]
        have HIZ : Hid (∀ W, Calls Tryz.prog 32 #[.agg (bC (midV x)).toArray] W fun e w' => e = .returned (.bool false) ∧ Gr W w') := fun W => by
          have h := isZeroC (midV x) W
          rwa [show (midV x == zId) = false by rw [beq_eq_false_iff_ne]; exact hzz] at h
        clear hmb hmt hzz
        go_wp2_with fail
        refine (HIZ.out _).mono ?_
        rintro e w5 ⟨rfl, hg5⟩
        have h5 := H3.out.gr hg5
        have b5 := (hg5.block (Array.getElem?_eq_some_iff.1 B3.out).1).trans B3.out
        have c5 := (hg5.block (Array.getElem?_eq_some_iff.1 C3.out).1).trans C3.out
        have u1 := hasRow_block b5 0 32 (by rw [bC_length]; decide)
        have f1 := freeRow_block b5 0 32
        have k1 := hasRow_block c5 0 32 (by rw [bC_length]; decide)
        have k2 := (rowAt_block c5 0 32 (by rw [bC_length]; decide)).trans (rowOf_all _ _ (bC_length (midV x)))
        have B5 := Lib.hid (sets_whole (cs := bC (midV x)) b5 (by rw [bC_length, bC_length]))
        have H5 := Lib.hid (h5.other (sets_other (b := w.heap.size) (i := b) (by omega) (bC (midV x)) 0 w5))
        have HG5 := Lib.hid (grown_setsOwn (grown_trans HG3.out (grown_gr (row := some b) hg5)) (b := w.heap.size) (Nat.le_refl _) (bC (midV x)) 0)
        clear d0 d1 d2 d3 d4 z3 v1 v2 H3 B3 C3 HG3 hg5 HIZ h5 b5 c5
        go_wp2_with fail
        refine bodyPost_ret (results_cell_row rfl _ _ w.heap.size _ _ _ _ rfl B5.out Tryz.underlying23 rfl (by rw [List.size_toArray, bC_length]; kernel_rfl)) rfl ?_
        exact ⟨by rw [HF2.out], by rw [HF2.out, HTX.out]; show PSAt _ _ _ (p1.fail p1.start 0); rw [fail_zero]; exact H5.out, HG5.out⟩
end Go.Proofs.YtcjacgjeiljfgaaGreatDoor

namespace Go.Proofs.YtcjacgjeiljfgaaGreatDoor
open Go.RowKit

theorem put_target {w : World} {b : Nat} {c : Cm} {v : Value} {t : TypeId} (h : w.heap[b]? = some (.cells (cmC c v).toArray t (0, 0))) (i : Id) : (w.setCells b 1 (bC i)).heap[b]? = some (.cells (cmC { c with target := i } v).toArray t (0, 0)) :=
  sets_block b t ([Value.string c.group, .int .i64 c.version, .bool c.moderated, v, .string c.text, .int .i64 c.number] ++ pubC c.height c.root) (bC i) [.int .i64 c.kind] (bC c.target) w (by rw [bC_length, bC_length]) h
def read1 (n : Nat) (p : PS) : PS × Cm := ((p.targetP n).1, { cm0 1 with target := (p.targetP n).2 })
def read2 (n : Nat) (p : PS) : PS × Cm := (((p.targetP n).1.groupP n).1, { cm0 2 with target := (p.targetP n).2, group := bs ((p.targetP n).1.groupP n).2 })
set_option maxRecDepth 100000 in
set_option maxHeartbeats 2000000 in
theorem form1C (b : Nat) (s : ByteArray) (p : PS) (w : World) (h : PSAt w b s p) (hok : PSok (bl s) p) (hs : s.size ≤ 1000000) (hE : Env w) (hb : 1 < b) :
    Calls Tryz.prog 46 #[.pointer (some ⟨b, 0, none⟩)] w (RdPost b s (read1 s.size p).1 w (read1 s.size p).2) := by
  have hz := h.facts.2.2.2.2.2.2
  have g0 := (Gr.refl w).alloc (.cells (cmC (cm0 0) nilV).toArray 38)
  have HG := Lib.hid (targetC b s p _ (h.gr g0) hok hs (hE.gr g0) hb)
  have B0 := Lib.hid (heap_alloc_new w (.cells (cmC (cm0 0) nilV).toArray 38))
  have G0 := Lib.hid (grown_gr (row := some b) g0)
  have HR : Hid (read1 s.size p = ((p.targetP s.size).1, { cm0 1 with target := (p.targetP s.size).2 })) := rfl
  clear h hok hE g0
  generalize p.targetP s.size = q at *
  obtain ⟨p1, i⟩ := q
  simp only at HG HR
  go_enter Tryz.func46, Tryz.ntmps46
  go_wp2_with fail
  refine HG.out.mono ?_
  rintro e w1 ⟨rfl, h1, hg1⟩
  have b0 := grown_block hg1 B0.out (by simp; omega)
  have f0 := freeRow_block b0 0 56
  have u0 := hasRow_block b0 0 56 (by rw [cmC_length]; decide)
  have hw := Lib.hid (sets_whole (cs := cmC { cm0 1 with target := i } nilV) b0 (by rw [cmC_length, cmC_length]))
  have h5 := Lib.hid (h1.other (sets_other (b := w.heap.size) (i := b) (by omega) (cmC { cm0 1 with target := i } nilV) 0 w1))
  have hg5 := Lib.hid (grown_sets (b := w.heap.size) (Nat.le_refl _) (cmC { cm0 1 with target := i } nilV) 0 w1 (grown_trans G0.out hg1))
  clear h1 hg1 b0 B0 G0
  go_wp2_with fail
  refine bodyPost_ret (v := .agg (cmC { cm0 1 with target := i } nilV).toArray) (results_cell_row rfl _ _ w.heap.size _ _ _ _ rfl hw.out Tryz.underlying38 rfl (by rw [List.size_toArray, cmC_length]; kernel_rfl)) rfl ?_
  rw [HR.out]
  exact ⟨none, 0, 0, rfl, nil_auts _, (fun x hx => by cases hx), h5.out, hg5.out⟩
set_option maxRecDepth 100000 in
set_option maxHeartbeats 4000000 in
theorem form2C (b : Nat) (s : ByteArray) (p : PS) (w : World) (h : PSAt w b s p) (hok : PSok (bl s) p) (hs : s.size ≤ 1000000) (hE : Env w) (hb : 1 < b) :
    Calls Tryz.prog 48 #[.pointer (some ⟨b, 0, none⟩)] w (RdPost b s (read2 s.size p).1 w (read2 s.size p).2) := by
  have hz := h.facts.2.2.2.2.2.2
  have g0 := ((Gr.refl w).alloc (.cells (cmC (cm0 0) nilV).toArray 38)).alloc (.cells (cmC (cm0 2) nilV).toArray 38)
  have HG := Lib.hid (targetC b s p _ (h.gr g0) hok hs (hE.gr g0) hb)
  have B0 := Lib.hid (heap_alloc2_old w (.cells (cmC (cm0 0) nilV).toArray 38) (.cells (cmC (cm0 2) nilV).toArray 38))
  have B1 := Lib.hid (heap_alloc2_new w (.cells (cmC (cm0 0) nilV).toArray 38) (.cells (cmC (cm0 2) nilV).toArray 38))
  have G0 := Lib.hid (grown_gr (row := some b) g0)
  have HE := Lib.hid hE; have HOK := Lib.hid (hok.target s.size)
  have HR : Hid (read2 s.size p = (((p.targetP s.size).1.groupP s.size).1, { cm0 2 with target := (p.targetP s.size).2, group := bs ((p.targetP s.size).1.groupP s.size).2 })) := rfl
  clear h hok hE g0
  generalize p.targetP s.size = q at *
  obtain ⟨p1, i⟩ := q
  simp only at HG HR HOK
  go_enter Tryz.func48, Tryz.ntmps48
  go_wp2_with fail
  refine HG.out.mono ?_
  rintro e w1 ⟨rfl, h1, hg1⟩
  have b0 := grown_block hg1 B0.out (by simp; omega)
  have b1 := grown_block hg1 B1.out (by simp; omega)
  have v1 := hasRow_block b1 1 32 (by rw [cmC_length]; decide)
  have v2 := freeRow_block b1 1 32
  have H1 := Lib.hid h1; have HG1 := Lib.hid (grown_trans G0.out hg1); have BB0 := Lib.hid b0; have BB1 := Lib.hid b1
  clear h1 hg1 b0 b1 B0 B1 G0
  go_wp2_with fail
  have k1 := put_target BB1.out i
  have k0 := (sets_other (b := w.heap.size + 1) (i := w.heap.size) (by omega) (bC i) 1 w1).trans BB0.out
  have h2 := H1.out.other (sets_other (b := w.heap.size + 1) (i := b) (by omega) (bC i) 1 w1)
  have hg2 := grown_sets (b := w.heap.size + 1) (by omega) (bC i) 1 w1 HG1.out
  generalize w1.setCells (w.heap.size + 1) 1 (bC i) = W2 at *
  have HN := Lib.hid (groupC b s p1 W2 h2 HOK.out hs (HE.out.grown hg2 hb) hb)
  have HG2 := Lib.hid hg2; have KK1 := Lib.hid k1; have KK0 := Lib.hid k0
  clear v1 v2 k1 k0 h2 hg2
  refine HN.out.mono ?_
  rintro e w3 ⟨rfl, h3, hg3⟩
  have b1 := grown_block hg3 KK1.out (by simp; omega)
  have b0 := grown_block hg3 KK0.out (by simp; omega)
  have f133 := free_block b1 33
  obtain ⟨c0, c33, c34, c35, c36, c37, c38, c39, r1, q1, r39, q39, r40, q40, r0, q0, z1⟩ := cm_facts b1
  have H3 := Lib.hid h3; have HG3 := Lib.hid (grown_trans HG2.out hg3)
  generalize p1.groupP s.size = q at *
  obtain ⟨p2, g⟩ := q
  have b14 := put_group b1 (bs g)
  have b04 := (heap_setCell_other w3 ⟨w.heap.size + 1, 33, none⟩ w.heap.size (.string (bs g)) (by show w.heap.size ≠ w.heap.size + 1; omega)).trans b0
  have h4 := Lib.hid (H3.out.other (heap_setCell_other w3 ⟨w.heap.size + 1, 33, none⟩ b (.string (bs g)) (by show b ≠ w.heap.size + 1; omega)))
  have hg4 := Lib.hid (grown_new HG3.out (k := w.heap.size + 1) (o := 33) (by omega) (.string (bs g)))
  obtain ⟨-, -, -, -, -, -, -, -, -, -, -, -, -, -, r0', q0', z1'⟩ := cm_facts b14
  have f0 := freeRow_block b04 0 56
  have u0 := hasRow_block b04 0 56 (by rw [cmC_length]; decide)
  have B04 := Lib.hid b04
  clear h3 hg3 b0 b1 b14 b04 c0 c34 c35 c36 c37 c38 c39 r1 q1 r39 q39 r40 q40 r0 q0
  go_wp2_with fail
  have hw := sets_whole (cs := cmC { cm0 2 with target := i, group := bs g } nilV) B04.out (by rw [cmC_length, cmC_length])
  have h5 := h4.out.other (sets_other (b := w.heap.size) (i := b) (by omega) (cmC { cm0 2 with target := i, group := bs g } nilV) 0 _)
  have hg5 := grown_sets (b := w.heap.size) (Nat.le_refl _) (cmC { cm0 2 with target := i, group := bs g } nilV) 0 _ hg4.out
  refine bodyPost_ret (v := .agg (cmC { cm0 2 with target := i, group := bs g } nilV).toArray) (results_cell_row rfl _ _ w.heap.size _ _ _ _ rfl hw Tryz.underlying38 rfl (by rw [List.size_toArray, cmC_length]; kernel_rfl)) rfl ?_
  rw [HR.out]
  exact ⟨none, 0, 0, rfl, nil_auts _, (fun x hx => by cases hx), h5, hg5⟩
end Go.Proofs.YtcjacgjeiljfgaaGreatDoor

namespace Go.Proofs.YtcjacgjeiljfgaaGreatDoor
open Go.RowKit

theorem fin_lt {s : Str} {p : PS} (h : PSok s p) (hr : p.rest ≠ []) : p.fin < s.length := by
  have h1 := h.1
  have h2 := h.end_
  have : p.fin ≠ s.length := fun e => hr (h2.2 e)
  omega
set_option maxRecDepth 100000 in
set_option maxHeartbeats 4000000 in
theorem restC (b : Nat) (s : ByteArray) (p : PS) (w : World) (h : PSAt w b s p) (hok : PSok (bl s) p) (hs : s.size ≤ 1000000) :
    Calls Tryz.prog 53 #[.pointer (some ⟨b, 0, none⟩)] w (PSPost b s (p.restP (bl s)).1 w (.string (bs (p.restP (bl s)).2))) := by
  obtain ⟨c0, c1, c2, c3, c4, hf, hz⟩ := h.facts
  have hf1 := hf 1; have hf2 := hf 2
  have hsz := bl_length s
  have hend := hok.end_
  rw [hsz] at hend
  have H := Lib.hid h
  by_cases he : p.e = 0
  · by_cases hr : p.rest = []
    · have HF : Hid (p.restP (bl s) = (p, [])) := by show _ = _; unfold PS.restP; rw [if_pos (.inr hr)]
      have hfin := hend.1 hr
      rw [he] at c4
      rw [hfin] at c2
      clear hend hok hf hr hfin h hsz
      go_enter Tryz.func53, Tryz.ntmps53
      go_wp2_with fail
      go_quiet (fail)
      go_wp2_with fail
      go_ret
      exact ⟨by rw [HF.out]; rfl, by rw [HF.out]; exact H.out.gr ((Gr.refl w).drewN nq), grown_gr ((Gr.refl w).drewN nq)⟩
    · have hlt := fin_lt hok hr
      rw [hsz] at hlt
      have HF : Hid (p.restP (bl s) = (({ p with start := p.fin + 1, fin := s.size, rest := [] } : PS).fail (p.fin + 1) (restE ((bl s).drop (p.fin + 1))), (bl s).drop (p.fin + 1))) := by
        show _ = _; unfold PS.restP; rw [if_neg (by rintro (q | q); exact q he; exact hr q), hsz]
      have hne : ((p.fin : Int) == (s.size : Int)) = false := by simp; omega
      have hw1 : IntKind.i64.wrap ((p.fin : Int) + 1) = (p.fin : Int) + 1 := by rw [IntKind.wrap_i64]; omega
      rw [he] at c4
      clear hend hok hf hr h hsz
      go_enter Tryz.func53, Tryz.ntmps53
      go_wp2_with fail
      go_quiet (fail)
      go_wp2_with fail
      have e1 : ((p.fin : Int) + 1) = ((p.fin + 1 : Nat) : Int) := by omega
      have h2 := (PSAt.set2 (PSAt.set1 (H.out.gr ((Gr.refl w).drewN nq)) (p.fin + 1)) s.size [])
      have hg2 := grown_trans (grown_gr (row := some b) ((Gr.refl w).drewN nq)) (grown_trans (grown_set (w.drewN nq) b 1 (.int .i64 ((p.fin + 1 : Nat) : Int))) (grown_set _ b 2 (.int .i64 (s.size : Int))))
      rw [← e1] at h2 hg2
      have H2 := Lib.hid (h2.gr (Gr.refl _).drew)
      have HG2 := Lib.hid (grown_trans hg2 (grown_gr (row := some b) (Gr.refl _).drew))
      have E1 := Lib.hid e1
      clear h2 hg2 e1
      apply wp_to (W := (((w.drewN nq).setCell ⟨b, 1, none⟩ (.int .i64 ((p.fin : Int) + 1))).setCell ⟨b, 2, none⟩ (.int .i64 (s.size : Int))).drew)
      case h =>
        go_region_law (fail)
        all_goals exact ⟨rfl, rfl⟩
      have H2' : Hid (PSAt (((w.drewN nq).setCell ⟨b, 1, none⟩ (.int .i64 ((p.fin : Int) + 1))).setCell ⟨b, 2, none⟩ (.int .i64 (s.size : Int))).drew b s { p with start := p.fin + 1, fin := s.size, rest := [] }) := H2.out
      clear H2
      generalize (((w.drewN nq).setCell ⟨b, 1, none⟩ (.int .i64 ((p.fin : Int) + 1))).setCell ⟨b, 2, none⟩ (.int .i64 (s.size : Int))).drew = W2 at *
      obtain ⟨d0, d1, d2, d3, d4, _, z2⟩ := H2'.out.facts
      simp only at d0 d1 d2 d3 d4
      have hk1 : ((p.fin + 1 : Nat) : Int) ≤ (s.size : Int) := by omega
      have hk2 : (0 : Int) ≤ ((p.fin + 1 : Nat) : Int) := by omega
      have HBL := Lib.hid (bl_extract s (p.fin + 1))
      have HTS := Lib.hid (extract_size_le s (p.fin + 1))
      clear c0 c1 c2 c3 c4 hz hf1 hf2 H hne hw1
      go_wp2_with fail
      go_quiet (fail)
      have HG3 := Lib.hid (grown_trans HG2.out (grown_gr (row := some b) ((Gr.refl W2).drewN nq)))
      have HP3 := Lib.hid (H2'.out.gr ((Gr.refl W2).drewN nq))
      generalize hT : s.extract (p.fin + 1) s.size = T at *
      obtain ⟨p2, hp2⟩ : ∃ p2 : PS, ({ p with start := p.fin + 1, fin := s.size, rest := [] } : PS) = p2 := ⟨_, rfl⟩
      have hst : p2.start = p.fin + 1 := by rw [← hp2]
      have he2 : p2.e = 0 := by rw [← hp2]; exact he
      rw [hp2] at HP3 HF
      rw [← HBL.out] at HF
      have HST := Lib.hid hst; have HE2 := Lib.hid he2
      clear H2' HG2 hp2 hst he2 he d0 d1 d2 d3 d4 z2 hk1 hk2 hT E1
      generalize W2.drewN nq = W3 at *
      obtain ⟨d0, d1, d2, d3, d4, _, z2⟩ := HP3.out.facts
      rw [HST.out] at d1
      have TXC : Hid (∀ W, Calls Tryz.prog 36 #[.string T] W fun e w' => e = .returned (.int .i64 (textErr (bl T))) ∧ W = w') := fun W => textC T W (by have := HTS.out; omega)
      by_cases hT0 : bl T = []
      · have hemp : T.toList.isEmpty = true := by rw [bl_toList, hT0]; rfl
        have hr4 : restE (bl T) = 4 := by unfold restE; rw [if_pos hT0]
        have ht0 : textErr (bl T) = 0 := by rw [hT0]; rfl
        rw [hr4] at HF
        rw [ht0] at TXC
        have HBT : Hid (bs (bl T) = T) := rfl
        have F4 := Lib.hid (failC b s p2 (p.fin + 1) 4 W3 HP3.out)
        clear hr4 ht0 hT0 HBL
        go_wp2_with fail
        refine F4.out.mono ?_
        rintro e W4 ⟨rfl, h4, hg4⟩
        have hs4 : (p2.fail (p.fin + 1) 4).start = p.fin + 1 := by rw [← HST.out]; unfold PS.fail; split <;> rfl
        have HP4 := Lib.hid h4
        have HG4 := Lib.hid (grown_trans HG3.out hg4)
        clear d0 d1 d2 d3 d4 z2 F4 HP3 HG3 hg4
        obtain ⟨d0, d1, d2, d3, d4, _, z2⟩ := h4.facts
        rw [hs4] at d1
        clear h4 hs4
        go_wp2_with fail
        refine wp_region_tail 7 (fun u => ∃ p : LD, u = lw W4 p) (by kernel_rfl) (by kernel_rfl) (cl_drew W4) ?_
        simp only [List.take_succ_cons, List.take_zero, List.drop_succ_cons, List.drop_zero]
        repeat (go_big_quiet_step (first | (go_at_call 36; exact lay_same (TXC.out _))))
        refine wpQuiet_nil ?_
        rintro _ ⟨pl, rfl⟩
        have gU := (lay_lw W4 pl).1
        have HFC := Lib.hid (failC b s (p2.fail (p.fin + 1) 4) (p.fin + 1) 0 _ (HP4.out.gr gU))
        have HGU := Lib.hid (grown_trans HG4.out (grown_gr (row := some b) gU))
        clear gU d0 d1 d2 d3 d4 z2
        generalize lw W4 pl = U at *
        go_wp2_with fail
        refine HFC.out.mono ?_
        rintro e W5 ⟨rfl, h5, hg5⟩
        have H5 := Lib.hid h5
        have HG5 := Lib.hid (grown_trans HGU.out hg5)
        clear h5 hg5 HFC
        go_wp2_with fail
        go_ret
        exact ⟨by rw [HF.out]; rfl, by rw [HF.out]; have := H5.out; rw [fail_zero] at this; exact this, HG5.out⟩
      · have hemp : T.toList.isEmpty = false := by rw [bl_toList, List.isEmpty_eq_false_iff]; exact hT0
        have hr4 : restE (bl T) = textErr (bl T) := by unfold restE; rw [if_neg hT0]
        rw [hr4] at HF
        generalize textErr (bl T) = er at *
        clear hr4 hT0 HBL
        go_wp2_with fail
        refine wp_region_tail 7 (fun u => ∃ p : LD, u = lw W3 p) (by kernel_rfl) (by kernel_rfl) (cl_drew W3) ?_
        simp only [List.take_succ_cons, List.take_zero, List.drop_succ_cons, List.drop_zero]
        repeat (go_big_quiet_step (first | (go_at_call 36; exact lay_same (TXC.out _))))
        refine wpQuiet_nil ?_
        rintro _ ⟨pl, rfl⟩
        have gU := (lay_lw W3 pl).1
        have HFC := Lib.hid (failC b s p2 (p.fin + 1) er _ (HP3.out.gr gU))
        have HGU := Lib.hid (grown_trans HG3.out (grown_gr (row := some b) gU))
        clear gU d0 d1 d2 d3 d4 z2
        generalize lw W3 pl = U at *
        go_wp2_with fail
        refine HFC.out.mono ?_
        rintro e W5 ⟨rfl, h5, hg5⟩
        have H5 := Lib.hid h5
        have HG5 := Lib.hid (grown_trans HGU.out hg5)
        clear h5 hg5 HFC
        go_wp2_with fail
        go_ret
        exact ⟨by rw [HF.out]; rfl, by rw [HF.out]; exact H5.out, HG5.out⟩
  · have HF : Hid (p.restP (bl s) = (p, [])) := by show _ = _; unfold PS.restP; rw [if_pos (.inl he)]
    have e2 : (p.e != 0) = true := by simp [he]
    have e3 : (p.e == 0) = false := by simp [he]
    clear hend hok hf h he hsz
    go_enter Tryz.func53, Tryz.ntmps53
    go_wp2_with fail
    go_quiet (fail)
    go_wp2_with fail
    go_ret
    exact ⟨by rw [HF.out]; rfl, by rw [HF.out]; exact H.out.gr ((Gr.refl w).drewN nq), grown_gr ((Gr.refl w).drewN nq)⟩
end Go.Proofs.YtcjacgjeiljfgaaGreatDoor

namespace Go.Proofs.YtcjacgjeiljfgaaGreatDoor
open Go.RowKit

def commaOf (s : ByteArray) : List ByteArray := Lib.splitB ⟨#[44]⟩ 0 (Lib.countB s ⟨#[44]⟩) s
theorem comma_len (s : ByteArray) : (commaOf s).length = Lib.countB s ⟨#[44]⟩ + 1 := Lib.splitB_all ⟨#[44]⟩ (by decide) 0 _ s rfl
theorem comma_le (s : ByteArray) : (commaOf s).length ≤ s.size + 1 := by rw [comma_len]; have := Lib.countB_le ⟨#[44]⟩ (by decide) s.size s (Nat.le_refl _); omega
theorem comma_split (s : ByteArray) : (commaOf s).map bl = splitL 44 (bl s) := by
  unfold commaOf
  rw [← splitK_eq 44 (bl s).length (bl s) (Nat.le_refl _)]
  exact Lib.splitB_data ⟨#[44]⟩ 0 _ s
theorem split_short {c : UInt8} : ∀ (n : Nat) (s : Str), s.length ≤ n → ∀ a ∈ splitL c s, a.length ≤ s.length
  | n, s, hn, a, ha => by
    rcases first_at c s with h | ⟨b, t, rfl, h⟩
    · rw [splitL_none h] at ha; simp at ha; subst ha; omega
    · rw [splitL_app t h] at ha
      rcases List.mem_cons.1 ha with rfl | ha
      · simp
      · cases n with
        | zero => simp at hn
        | succ n => have := split_short n t (by simp at hn; omega) a ha; simp; omega
theorem comma_short {s x : ByteArray} (h : x ∈ commaOf s) : x.size ≤ s.size := by
  have := split_short _ (bl s) (Nat.le_refl _) (bl x) (by rw [← comma_split]; exact List.mem_map_of_mem h)
  rwa [bl_length, bl_length] at this
theorem fail_fail (p : PS) (a : Nat) (x y : Int) : (p.fail a x).fail a y = p.fail a (if x = 0 then y else x) := by
  by_cases hx : x = 0
  · subst hx; rw [fail_zero, if_pos rfl]
  · rw [if_neg hx]
    by_cases he : p.e = 0
    · have e1 : p.fail a x = { p with at_ := a, e := x } := by unfold PS.fail; rw [if_pos ⟨he, hx⟩]
      rw [e1]; unfold PS.fail; rw [if_neg (by simp [hx])]
    · have e1 : ∀ z, p.fail a z = p := fun z => by unfold PS.fail; rw [if_neg (by simp [he])]
      rw [e1, e1]
theorem fail_start (p : PS) (a : Nat) (x : Int) : (p.fail a x).start = p.start := by unfold PS.fail; split <;> rfl
def badA (l : List ByteArray) : Bool := l.any fun x => decide ((autErr (bl x)).2 ≠ 0)
def eA (l : List ByteArray) : Int := if badA l = true then 3 else 0
theorem eA_ok {l : List ByteArray} {k : Nat} (h : k < l.length) (h0 : (autErr (bl l[k])).2 = 0) : eA (l.take (k + 1)) = eA (l.take k) := by
  unfold eA badA; rw [List.take_succ_eq_append_getElem h, List.any_append]; simp [h0]
theorem eA_bad {l : List ByteArray} {k : Nat} (h : k < l.length) (h0 : (autErr (bl l[k])).2 ≠ 0) : eA (l.take (k + 1)) = if eA (l.take k) = 0 then 3 else eA (l.take k) := by
  unfold eA badA; rw [List.take_succ_eq_append_getElem h, List.any_append]
  have : ((([l[k]] : List ByteArray)).any fun x => decide ((autErr (bl x)).2 ≠ 0)) = true := by simp [h0]
  rw [this, Bool.or_true]
  cases (List.take k l).any fun x => decide ((autErr (bl x)).2 ≠ 0) <;> rfl
def autsA (l : List ByteArray) : List Aut := l.map fun x => autOf (bl x)
theorem autsV_of (s : ByteArray) : autsV (bl s) = autsA (commaOf s) := by
  unfold autsV autsA; rw [← comma_split, List.map_map]; rfl
theorem autsE_of (p : PS) (a : Nat) (s : ByteArray) : p.fail a (autsE (bl s)) = ((p.fail a (eA (commaOf s))).fail a (if 8 < (commaOf s).length then 9 else 0)).fail a (if incA (autsA (commaOf s)) = true then 0 else 30) := by
  rw [fail_fail, fail_fail]
  congr 1
  unfold autsE
  rw [autsV_of, ← comma_split]
  have e : ((commaOf s).map bl).any (fun x => decide ((autErr x).2 ≠ 0)) = badA (commaOf s) := by unfold badA; rw [List.any_map]; rfl
  rw [e, List.length_map]
  unfold eA
  cases badA (commaOf s) <;> cases incA (autsA (commaOf s)) <;> by_cases h8 : 8 < (commaOf s).length <;> simp [h8]
theorem next_len {s : Str} {p : PS} (h : PSok s p) (n : Nat) (ho : (p.next n).2.2 = true) : (p.next n).2.1.length + 1 ≤ s.length := by
  have hf := (h.next n).1
  unfold PS.next at *
  by_cases h0 : p.e ≠ 0
  · rw [if_pos h0] at ho; cases ho
  · rw [if_neg h0] at hf ho ⊢
    cases hr : p.rest with
    | nil => rw [hr] at ho; cases ho
    | cons w ws => rw [hr] at hf; simp only at hf ⊢; omega
theorem autsA_len (l : List ByteArray) : (autsA l).length = l.length := List.length_map _
attribute [local go_sem ↓] exec_bsl
attribute [local go_sem] kSl1
theorem autsA_succ {l : List ByteArray} {k : Nat} (h : k < l.length) : ((autsA (l.take (k + 1))).map bC).flatten = ((autsA (l.take k)).map bC).flatten ++ bC (autOf (bl l[k])) := by
  unfold autsA; rw [List.take_succ_eq_append_getElem h, List.map_append, List.map_append, List.flatten_append]; congr 1; exact List.append_nil _
theorem news_at (W : World) (y : Aut) (t : TypeId) (n : Nat) (hn : n = W.heap.size) : ∀ j u, (bC y)[j]? = some u → (W.alloc (.cells (bC y).toArray t)).cell? ((⟨n, 0, none⟩ : Addr).add j) = some u := by
  intro j u hu
  subst hn
  rw [Addr.add_lit, Nat.zero_add, World.cell?_alloc_new]; simpa using hu
theorem one_bC (y : Aut) : ∀ u ∈ bC y, u.oneCell' = true := fun u hu => List.all_eq_true.1 (oneB_bC y) u hu
theorem grown_own {w a c : World} {b : Nat} {row : Option Nat} (h : w.grownBy a (some b)) (hg : a.grownBy c row) (hr : ∀ k, row = some k → w.heap.size ≤ k) : w.grownBy c (some b) :=
  ⟨hg.os.trans h.os, hg.tape.trans h.tape, hg.output.trans h.output, Nat.le_trans h.size hg.size, fun i hi hn => (hg.block i (Nat.lt_of_lt_of_le hi h.size) (fun e => by have := hr _ e.symm; omega)).trans (h.block i hi hn)⟩
def ModePost (b : Nat) (s : ByteArray) (q : PS × Bool × List Aut) (w : World) (e : Ending) (w' : World) : Prop := ∃ a n k, e = .returned (.tuple #[.bool q.2.1, .slice a n k]) ∧ AutsAt w' (.slice a n k) q.2.2 ∧ (∀ x, a = some x → w.heap.size ≤ x.block) ∧ PSAt w' b s q.1 ∧ w.grownBy w' (some b)
set_option maxRecDepth 100000 in
set_option maxHeartbeats 8000000 in
theorem modeC (b : Nat) (s : ByteArray) (p : PS) (w : World) (h : PSAt w b s p) (hok : PSok (bl s) p) (hs : s.size ≤ 1000000) (hE : Env w) (hb : 1 < b) :
    Calls Tryz.prog 52 #[.pointer (some ⟨b, 0, none⟩)] w (ModePost b s (p.modeP s.size) w) := by
  have hz := h.facts.2.2.2.2.2.2
  have HN := Lib.hid (nextC b s p w h hok hs hE hb)
  have HE := Lib.hid hE
  have HOK := Lib.hid (hok.next s.size)
  have HF : Hid (p.modeP s.size = if (p.next s.size).2.2 = false ∨ (p.next s.size).2.1 = openT then ((p.next s.size).1, false, []) else if (p.next s.size).2.1 ≠ modT then ((p.next s.size).1.fail (p.next s.size).1.start 3, false, []) else (p.next s.size).1.autsP s.size) := rfl
  have HX : Hid ((p.next s.size).2.2 = false → (p.next s.size).2.1 = []) := next_false
  clear h hok hE
  generalize p.next s.size = q at *
  obtain ⟨p1, x, ok⟩ := q
  simp only at HN HF HX HOK
  cases ok with
  | false =>
    have HR : Hid (p.modeP s.size = (p1, false, [])) := by show _ = _; rw [HF.out, if_pos (.inl rfl)]
    have hx := HX.out rfl
    subst hx
    clear HF HX
    go_enter Tryz.func52, Tryz.ntmps52
    go_wp2_with fail
    refine HN.out.mono ?_
    rintro e w1 ⟨rfl, h1, hg1⟩
    have H1 := Lib.hid h1; have HG1 := Lib.hid hg1
    clear h1 hg1
    go_wp2_with fail
    go_ret2
    exact ⟨none, 0, 0, by rw [HR.out]; rfl, by rw [HR.out]; exact nil_auts _, (fun x hx => by cases hx), by rw [HR.out]; exact H1.out, HG1.out⟩
  | true =>
    by_cases hop : x = openT
    · have HR : Hid (p.modeP s.size = (p1, false, [])) := by show _ = _; rw [HF.out, if_pos (.inr hop)]
      subst hop
      have q1 : ((bs openT).toList == [111, 112, 101, 110]) = true := by rw [bl_toList]; decide +kernel
      clear HF HX
      generalize bs openT = y at *
      go_enter Tryz.func52, Tryz.ntmps52
      go_wp2_with fail
      refine HN.out.mono ?_
      rintro e w1 ⟨rfl, h1, hg1⟩
      have H1 := Lib.hid h1; have HG1 := Lib.hid hg1
      clear h1 hg1
      go_wp2_with fail
      go_ret2
      exact ⟨none, 0, 0, by rw [HR.out]; rfl, by rw [HR.out]; exact nil_auts _, (fun x hx => by cases hx), by rw [HR.out]; exact H1.out, HG1.out⟩
    · have q1 : ((bs x).toList == [111, 112, 101, 110]) = false := by
        rw [beq_eq_false_iff_ne, bl_toList, bl_bs]; exact hop
      by_cases hmd : x = modT
      · have HR0 : Hid (p.modeP s.size = p1.autsP s.size) := by show _ = _; rw [HF.out, if_neg (by simp [hop]), if_neg (by simp [hmd])]
        subst hmd
        have q2 : ((bs modT).toList != [109, 111, 100, 101, 114, 97, 116, 101, 100]) = false := by rw [bl_toList]; decide +kernel
        have q3 : ((bs modT).toList == [109, 111, 100, 101, 114, 97, 116, 101, 100]) = true := by rw [bl_toList]; decide +kernel
        clear HF HX hop
        generalize bs modT = y at *
        have HR : Hid (p1.autsP s.size = if (p1.next s.size).2.2 = true then ((p1.next s.size).1.fail (p1.next s.size).1.start (autsE (p1.next s.size).2.1), true, autsV (p1.next s.size).2.1) else ((p1.next s.size).1, true, [])) := rfl
        rw [HR0.out]
        clear HR0
        have HLEN := Lib.hid ((show (p1.next s.size).2.2 = true → _ from next_len HOK.out s.size))
        go_enter Tryz.func52, Tryz.ntmps52
        go_wp2_with fail
        refine HN.out.mono ?_
        rintro e w1 ⟨rfl, h1, hg1⟩
        have HN2 := Lib.hid (nextC b s p1 w1 h1 HOK.out hs (HE.out.grown hg1 hb) hb)
        have HX2 : Hid ((p1.next s.size).2.2 = false → (p1.next s.size).2.1 = []) := next_false
        have HG1 := Lib.hid hg1
        clear h1 hg1 HN HOK
        generalize p1.next s.size = q at *
        obtain ⟨p2, x2, ok2⟩ := q
        simp only at HN2 HR HX2 HLEN
        cases ok2 with
        | false =>
          have hx := HX2.out rfl
          subst hx
          go_wp2_with fail
          refine HN2.out.mono ?_
          rintro e w2 ⟨rfl, h2, hg2⟩
          have H2 := Lib.hid h2; have HG2 := Lib.hid (grown_trans HG1.out hg2)
          clear h2 hg2
          go_wp2_with fail
          go_ret2
          exact ⟨none, 0, 0, by rw [HR.out]; rfl, by rw [HR.out]; exact nil_auts _, (fun x hx => by cases hx), by rw [HR.out]; exact H2.out, HG2.out⟩
        | true =>
          rw [if_pos rfl] at HR
          go_wp2_with fail
          refine HN2.out.mono ?_
          rintro e w2 ⟨rfl, h2, hg2⟩
          obtain ⟨m, hm⟩ := HE.out.grown (grown_trans HG1.out hg2) hb
          have hyl : (bs x2).size ≤ 999999 := by have := HLEN.out trivial; have e1 := bl_length (bs x2); rw [bl_bs] at e1; rw [bl_length] at this; omega
          have HC := Lib.hid (Tryz.strings_Split (bs x2) ⟨#[44]⟩ m w2 (by omega) hm (by decide))
          rw [← comma_len] at HC
          have HCL : Hid ((commaOf (bs x2)).length ≤ 1000000) := by show _ ≤ _; have := comma_le (bs x2); omega
          have HCS : Hid (∀ z ∈ commaOf (bs x2), z.size ≤ 1000000) := fun z hz => Nat.le_trans (comma_short hz) (by omega)
          have HEE := Lib.hid (autsE_of p2 p2.start (bs x2))
          have HVV := Lib.hid (autsV_of (bs x2))
          rw [bl_bs] at HEE HVV
          rw [HVV.out, HEE.out] at HR
          have HG2 := Lib.hid (grown_trans HG1.out hg2)
          have H2 := Lib.hid h2
          clear h2 hg2 hm hyl HEE HVV HX2 HLEN HG1 HN2 HE
          have HC' : Hid (Calls Tryz.prog 85 #[.string (bs x2), .string ⟨#[44]⟩] w2 fun e w' => e = .returned (.slice (some ⟨w2.heap.size, 0, none⟩) (commaOf (bs x2)).length (commaOf (bs x2)).length) ∧ w' = w2.alloc (.cells ((commaOf (bs x2)).map Value.string).toArray 9)) := HC.out
          clear HC
          generalize commaOf (bs x2) = l at *
          go_wp2_with fail
          refine HC'.out.mono ?_
          rintro e w3 ⟨rfl, rfl⟩
          have g3 := (Gr.refl w2).alloc (.cells (l.map Value.string).toArray 9)
          have HB3 := Lib.hid (heap_alloc_new w2 (.cells (l.map Value.string).toArray 9))
          have HP3 := Lib.hid (H2.out.gr g3)
          have HG3 := Lib.hid (grown_trans HG2.out (grown_gr (row := some b) g3))
          have HK : w.heap.size ≤ w2.heap.size := HG2.out.size
          generalize w2.alloc (.cells (l.map Value.string).toArray 9) = w3 at *
          clear H2 HG2 HC' g3
          obtain ⟨kk, hkk⟩ : ∃ kk, w2.heap.size = kk := ⟨_, rfl⟩
          rw [hkk] at HB3 HK ⊢
          clear hkk
          have HI := Lib.hid (info_parts infoAut)
          go_wp2_with fail
          go_loopw [6, 8, 9, 10, 11, 41, 42, 43, 44, 45, 46, 47, 48, 49, 50, 51, 52, 53, 54, 55, 56, 57, 58, 59, 60, 61, 62, 63] (fun cv _ _ _ _ i _ _ _ _ _ _ _ _ _ _ _ _ _ _ _ _ _ _ _ _ _ _ wr => ∃ k : Nat, k ≤ l.length ∧ i = .int .i64 k ∧ Hid (w.grownBy wr (some b)) ∧ Hid (PSAt wr b s (p2.fail p2.start (eA (l.take k)))) ∧ Hid (wr.heap[kk]? = some (.cells (l.map Value.string).toArray 9 (0, 0))) ∧ Hid (wr.ownsRow (kk + 1) 25 16 cv k ((autsA (l.take k)).map bC).flatten)) (fun _ _ _ _ _ i _ _ _ _ _ _ _ _ _ _ _ _ _ _ _ _ _ _ _ _ _ _ _ => l.length - (intOf i).toNat)
          case atStart => exact ⟨0, Nat.zero_le _, rfl, HG3.out, by show PSAt _ _ _ _; rw [show p2.fail p2.start (eA (l.take 0)) = p2 from fail_zero _ _]; exact HP3.out, HB3.out, ⟨rfl, .inl ⟨rfl, rfl⟩⟩⟩
          case round =>
            obtain ⟨k, hk, rfl, hG, hP, hB, hown⟩ := hrel
            by_cases hlt : k < l.length
            · have hk1 : (k : Int) < (l.length : Int) := by omega
              have hk2 : (0 : Int) ≤ (k : Int) := by omega
              have hcl := HCL.out
              have hbw : kk < wr.heap.size := (Array.getElem?_eq_some_iff.1 hB.out).1
              have hc : wr.cell? ⟨kk, k, none⟩ = some (.string l[k]) := cell_of_row wr kk k _ _ _ hB.out |>.trans (by simp [hlt])
              have HS := Lib.hid (autsA_succ hlt)
              have HE0 := Lib.hid (eA_ok hlt)
              have HE1 := Lib.hid (eA_bad hlt)
              have HPA : Hid (∀ W, Calls Tryz.prog 86 #[.string l[k]] W fun e w' => e = .returned (.tuple #[.agg (bC (autOf (bl l[k]))).toArray, .int .i64 (autErr (bl l[k])).1, .int .i64 (autErr (bl l[k])).2]) ∧ Gr W w') := fun W => parseAuthorC l[k] W (HCS.out _ (List.getElem_mem hlt))
              generalize autOf (bl l[k]) = y at *
              generalize autErr (bl l[k]) = ae at *
              obtain ⟨a1, er⟩ := ae
              simp only at HE0 HE1 HPA
              generalize l[k] = z at *
              go_wp2_with fail
              refine (HPA.out _).mono ?_
              rintro e w5 ⟨rfl, hg5⟩
              have g6 := hg5.trans ((Gr.refl w5).alloc (.cells (bC y).toArray 25))
              by_cases her : er = 0
              · subst her
                clear HE1
                have HE2 := Lib.hid (HE0.out rfl)
                clear HE0
                have g7 := g6.trans ((Gr.refl (w5.alloc (.cells (bC y).toArray 25))).alloc (.cells (bC y).toArray 25))
                have O7 := Lib.hid (World.ownsRow.kept hown.out g7.grownBy (by cases u6.ownBlock <;> simp))
                have G7 := Lib.hid (grown_trans hG.out (grown_gr (row := some b) g7))
                have P7 := Lib.hid (hP.out.gr g7)
                have B7 := Lib.hid ((g7.block hbw).trans hB.out)
                have N7 := Lib.hid (news_at (w5.alloc (.cells (bC y).toArray 25)) y 25 (w5.heap.size + 1) (by simp))
                have Z7 : kk + 1 ≤ ((w5.alloc (.cells (bC y).toArray 25)).alloc (.cells (bC y).toArray 25)).heap.size := by have := g7.size; omega
                have hbl : ∀ k', u6.ownBlock = some k' → kk + 1 ≤ k' := fun k' hk' => (hown.out.lt k' hk').1
                have HBL := Lib.hid hbl
                clear hbl hown hg5 g6 g7 hG hP hB
                obtain ⟨i0, hi, hz0, hz1, hz2⟩ := HI.out
                go_wp2_with (at_builtin; refine wpList_append_own _ rfl _ _ 36 rfl (kk + 1) 25 i0 _ 16 16 Tryz.underlying36 hi hz0 hz1 hz2 rfl (by decide) u6 k ((autsA (l.take k)).map bC).flatten rfl O7.out ⟨w5.heap.size + 1, 0, none⟩ 1 1 (bC y) rfl (by rw [bC_length]) N7.out (one_bC y) (by have := HCL.out; unfold maxLen; omega) (by have := HCL.out; omega) Z7 ?_; intro v' w8 hown8 hgrow8 hnil8)
                go_roundw
                case rel =>
                  have hp7 := (Array.getElem?_eq_some_iff.1 P7.out).1
                  have hb7 := (Array.getElem?_eq_some_iff.1 B7.out).1
                  refine ⟨k + 1, by omega, by go_num, grown_own G7.out hgrow8 (fun k' hk' => by have := HBL.out k' hk'; omega), ?_, ?_, ?_⟩
                  · rw [HE2.out]; exact (hgrow8.block _ hp7 (fun e => by have := HBL.out _ e.symm; omega)).trans P7.out
                  · exact (hgrow8.block _ hb7 (fun e => by have := HBL.out _ e.symm; omega)).trans B7.out
                  · show World.ownsRow _ _ _ _ _ _ _
                    rw [HS.out]; exact hown8
                case measure => simp [intOf]; omega
              · have hn1 : (er != 0) = true := by simp [her]
                have hn2 : (er == 0) = false := by simp [her]
                have HE2 := Lib.hid (HE1.out her)
                clear HE0 HE1 her
                have P6 := hP.out.gr g6
                obtain ⟨d0, d1, d2, d3, d4, _, hz6⟩ := P6.facts
                rw [fail_start] at d1
                have HFC := Lib.hid (failC b s _ p2.start 3 _ P6)
                rw [fail_fail] at HFC
                have HB6 := Lib.hid (heap_alloc_new w5 (.cells (bC y).toArray 25))
                have O6 := Lib.hid (World.ownsRow.kept hown.out g6.grownBy (by cases u6.ownBlock <;> simp))
                have G6 := Lib.hid (grown_trans hG.out (grown_gr (row := some b) g6))
                have B6 := Lib.hid ((g6.block hbw).trans hB.out)
                have Z5 : kk + 1 ≤ w5.heap.size := by have := hg5.size; omega
                have Zb : b < w5.heap.size := by have := hg5.size; have := (Array.getElem?_eq_some_iff.1 hP.out).1; omega
                have HBL : Hid (∀ k', u6.ownBlock = some k' → kk + 1 ≤ k') := fun k' hk' => (hown.out.lt k' hk').1
                clear hown hg5 g6 hG hP hB P6
                go_wp2_with fail
                refine HFC.out.mono ?_
                rintro e w7 ⟨rfl, h7, hg7⟩
                have b7 : AutB w7 w5.heap.size 25 y := grown_block hg7 HB6.out (by simp; omega)
                obtain ⟨r7, q7, z7⟩ := b7.rows
                have g8 := (Gr.refl w7).alloc (.cells (bC y).toArray 25)
                have O7 := Lib.hid ((World.ownsRow.kept O6.out hg7 (by cases hq : u6.ownBlock with
                  | none => exact .inl rfl
                  | some q => exact .inr (fun e => by cases e; have := HBL.out _ hq; omega))).kept g8.grownBy (by cases u6.ownBlock <;> simp))
                have G7 := Lib.hid (grown_trans (grown_trans G6.out hg7) (grown_gr (row := some b) g8))
                have P7 := Lib.hid (h7.gr g8)
                have B7 := Lib.hid ((g8.block (Nat.lt_of_lt_of_le (by simp; omega) hg7.size)).trans ((hg7.block kk (by simp; omega) (fun e => by cases e; omega)).trans B6.out))
                have N7 := Lib.hid (news_at w7 y 25 w7.heap.size rfl)
                have Z7 : kk + 1 ≤ (w7.alloc (.cells (bC y).toArray 25)).heap.size := by have := hg7.size; simp at this ⊢; omega
                clear O6 G6 B6 h7 hg7 g8 b7 d0 d1 d2 d3 d4 HB6 HFC
                obtain ⟨i0, hi, hz0, hz1, hz2⟩ := HI.out
                go_wp2_with (at_builtin; refine wpList_append_own _ rfl _ _ 36 rfl (kk + 1) 25 i0 _ 16 16 Tryz.underlying36 hi hz0 hz1 hz2 rfl (by decide) u6 k ((autsA (l.take k)).map bC).flatten rfl O7.out ⟨w7.heap.size, 0, none⟩ 1 1 (bC y) rfl (by rw [bC_length]) N7.out (one_bC y) (by have := HCL.out; unfold maxLen; omega) (by have := HCL.out; omega) Z7 ?_; intro v' w8 hown8 hgrow8 hnil8)
                go_roundw
                case rel =>
                  have hp7 := (Array.getElem?_eq_some_iff.1 P7.out).1
                  have hb7 := (Array.getElem?_eq_some_iff.1 B7.out).1
                  refine ⟨k + 1, by omega, by go_num, grown_own G7.out hgrow8 (fun k' hk' => by have := HBL.out k' hk'; omega), ?_, ?_, ?_⟩
                  · rw [HE2.out]; exact (hgrow8.block _ hp7 (fun e => by have := HBL.out _ e.symm; omega)).trans P7.out
                  · exact (hgrow8.block _ hb7 (fun e => by have := HBL.out _ e.symm; omega)).trans B7.out
                  · show World.ownsRow _ _ _ _ _ _ _
                    rw [HS.out]; exact hown8
                case measure => simp [intOf]; omega
            · have hk1 : ¬ (k : Int) < (l.length : Int) := by omega
              obtain rfl : k = l.length := by omega
              rw [List.take_length] at hown hP
              have HAL := Lib.hid (autsA_len l)
              have HBL : Hid (∀ k', u6.ownBlock = some k' → kk + 1 ≤ k') := fun k' hk' => (hown.out.lt k' hk').1
              have HAU : Hid (∀ W : World, W.ownsRow (kk + 1) 25 16 u6 l.length ((autsA l).map bC).flatten → AutsAt W u6 (autsA l)) := fun W hW => slAt_of_owns (base := kk + 1) (e := 25) (map_bC_len _) (by rw [List.length_map, autsA_len]; exact hW)
              have HKEEP : Hid (∀ W W' : World, W.ownsRow (kk + 1) 25 16 u6 l.length ((autsA l).map bC).flatten → W.grownBy W' (some b) → W'.ownsRow (kk + 1) 25 16 u6 l.length ((autsA l).map bC).flatten) := fun W W' hW hg => World.ownsRow.kept hW hg (by cases hq : u6.ownBlock with
                | none => exact .inl rfl
                | some q => exact .inr (fun e => by cases e; have := HBL.out _ hq; omega))
              obtain ⟨a', c', rfl, _⟩ := owns_slice hown.out
              have hcl := HCL.out
              generalize ((autsA l).map bC).flatten = xs at *
              generalize autsA l = la at *
              have HINC : Hid (∀ W, AutsAt W (.slice a' l.length c') la → Calls Tryz.prog 73 #[.slice a' l.length c'] W fun e w' => e = .returned (.bool (incA la)) ∧ Gr W w') := fun W hW => incC la _ W hW (by rw [HAL.out]; exact hcl)
              generalize eA l = ea at *
              generalize l.length = n at *
              clear HCS HI HB3 HP3 HG3 hB
              obtain ⟨d0, d1, d2, d3, d4, _, hz6⟩ := hP.out.facts
              rw [fail_start] at d1
              by_cases h8 : 8 < n
              · have h81 : (8 : Int) < (n : Int) := by omega
                rw [if_pos h8] at HR
                have HFC := Lib.hid (failC b s _ p2.start 9 _ hP.out)
                have O0 := hown; have G0 := hG
                clear hown hG hP
                go_wp2_with fail
                refine HFC.out.mono ?_
                rintro e w4 ⟨rfl, hP4, hg4⟩
                have hP := Lib.hid hP4
                have hown := Lib.hid (HKEEP.out _ _ O0.out hg4)
                have hG := Lib.hid (grown_trans G0.out hg4)
                clear hP4 hg4 O0 G0 d0 d1 d2 d3 d4 hz6 HFC
                cases hin : incA la with
                | true =>
                  rw [if_pos hin] at HR
                  rw [hin] at HINC
                  go_wp2_with fail
                  refine (HINC.out _ (HAU.out _ hown.out)).mono ?_
                  rintro e w5 ⟨rfl, hg5⟩
                  have G5 := Lib.hid (grown_trans hG.out (grown_gr (row := some b) hg5))
                  have P5 := Lib.hid (hP.out.gr hg5)
                  have A5 := Lib.hid (HAU.out _ (HKEEP.out _ _ hown.out (grown_gr hg5)))
                  clear hG hP hown hg5
                  go_wp2_with fail
                  go_ret2
                  exact ⟨a', n, c', by rw [HR.out]; rfl, by rw [HR.out]; exact A5.out, (fun x hx => by have := HBL.out x.block (by rw [hx]; rfl); omega), by rw [HR.out]; show PSAt _ _ _ (PS.fail _ _ _); rw [fail_zero]; exact P5.out, G5.out⟩
                | false =>
                  rw [if_neg (by rw [hin]; decide)] at HR
                  rw [hin] at HINC
                  go_wp2_with fail
                  refine (HINC.out _ (HAU.out _ hown.out)).mono ?_
                  rintro e w5 ⟨rfl, hg5⟩
                  have G5 := Lib.hid (grown_trans hG.out (grown_gr (row := some b) hg5))
                  have hp5 := hP.out.gr hg5
                  have O5 := Lib.hid (HKEEP.out _ _ hown.out (grown_gr hg5))
                  have HFC5 := Lib.hid (failC b s _ p2.start 30 _ hp5)
                  obtain ⟨d0, d1, d2, d3, d4, _, hz6⟩ := hp5.facts
                  simp only [fail_start] at d1
                  clear hG hP hown hg5 hp5
                  go_wp2_with fail
                  refine HFC5.out.mono ?_
                  rintro e w7 ⟨rfl, hP7, hg7⟩
                  have P7 := Lib.hid hP7
                  have G7 := Lib.hid (grown_trans G5.out hg7)
                  have A7 := Lib.hid (HAU.out _ (HKEEP.out _ _ O5.out hg7))
                  clear hP7 hg7 O5 G5 HFC5 d0 d1 d2 d3 d4 hz6
                  go_wp2_with fail
                  go_ret2
                  exact ⟨a', n, c', by rw [HR.out]; rfl, by rw [HR.out]; exact A7.out, (fun x hx => by have := HBL.out x.block (by rw [hx]; rfl); omega), by rw [HR.out]; exact P7.out, G7.out⟩
              · have h81 : ¬ (8 : Int) < (n : Int) := by omega
                rw [if_neg h8, fail_zero] at HR
                cases hin : incA la with
                | true =>
                  rw [if_pos hin] at HR
                  rw [hin] at HINC
                  go_wp2_with fail
                  refine (HINC.out _ (HAU.out _ hown.out)).mono ?_
                  rintro e w5 ⟨rfl, hg5⟩
                  have G5 := Lib.hid (grown_trans hG.out (grown_gr (row := some b) hg5))
                  have P5 := Lib.hid (hP.out.gr hg5)
                  have A5 := Lib.hid (HAU.out _ (HKEEP.out _ _ hown.out (grown_gr hg5)))
                  clear hG hP hown hg5
                  go_wp2_with fail
                  go_ret2
                  exact ⟨a', n, c', by rw [HR.out]; rfl, by rw [HR.out]; exact A5.out, (fun x hx => by have := HBL.out x.block (by rw [hx]; rfl); omega), by rw [HR.out]; show PSAt _ _ _ (PS.fail _ _ _); rw [fail_zero]; exact P5.out, G5.out⟩
                | false =>
                  rw [if_neg (by rw [hin]; decide)] at HR
                  rw [hin] at HINC
                  go_wp2_with fail
                  refine (HINC.out _ (HAU.out _ hown.out)).mono ?_
                  rintro e w5 ⟨rfl, hg5⟩
                  have G5 := Lib.hid (grown_trans hG.out (grown_gr (row := some b) hg5))
                  have hp5 := hP.out.gr hg5
                  have O5 := Lib.hid (HKEEP.out _ _ hown.out (grown_gr hg5))
                  have HFC5 := Lib.hid (failC b s _ p2.start 30 _ hp5)
                  obtain ⟨d0, d1, d2, d3, d4, _, hz6⟩ := hp5.facts
                  simp only [fail_start] at d1
                  clear hG hP hown hg5 hp5
                  go_wp2_with fail
                  refine HFC5.out.mono ?_
                  rintro e w7 ⟨rfl, hP7, hg7⟩
                  have P7 := Lib.hid hP7
                  have G7 := Lib.hid (grown_trans G5.out hg7)
                  have A7 := Lib.hid (HAU.out _ (HKEEP.out _ _ O5.out hg7))
                  clear hP7 hg7 O5 G5 HFC5 d0 d1 d2 d3 d4 hz6
                  go_wp2_with fail
                  go_ret2
                  exact ⟨a', n, c', by rw [HR.out]; rfl, by rw [HR.out]; exact A7.out, (fun x hx => by have := HBL.out x.block (by rw [hx]; rfl); omega), by rw [HR.out]; exact P7.out, G7.out⟩
      · have HR : Hid (p.modeP s.size = (p1.fail p1.start 3, false, [])) := by show _ = _; rw [HF.out, if_neg (by simp [hop]), if_pos hmd]
        have q2 : ((bs x).toList != [109, 111, 100, 101, 114, 97, 116, 101, 100]) = true := by
          rw [bl_toList, bl_bs]; exact bne_iff_ne.2 hmd
        have q3 : ((bs x).toList == [109, 111, 100, 101, 114, 97, 116, 101, 100]) = false := by
          rw [bl_toList, bl_bs]; exact beq_eq_false_iff_ne.2 hmd
        clear HF HX hop hmd
        generalize bs x = y at *
        go_enter Tryz.func52, Tryz.ntmps52
        go_wp2_with fail
        refine HN.out.mono ?_
        rintro e w1 ⟨rfl, h1, hg1⟩
        have HFC := Lib.hid (failC b s _ p1.start 3 _ h1)
        have HG1 := Lib.hid hg1
        obtain ⟨d0, d1, d2, d3, d4, _, hz6⟩ := h1.facts
        clear h1 hg1
        go_wp2_with fail
        refine HFC.out.mono ?_
        rintro e w2 ⟨rfl, h2, hg2⟩
        have H2 := Lib.hid h2
        have HG2 := Lib.hid (grown_trans HG1.out hg2)
        clear h2 hg2 HFC d0 d1 d2 d3 d4 hz6
        go_wp2_with fail
        go_ret2
        exact ⟨none, 0, 0, by rw [HR.out]; rfl, by rw [HR.out]; exact nil_auts _, (fun x hx => by cases hx), by rw [HR.out]; exact H2.out, HG2.out⟩
end Go.Proofs.YtcjacgjeiljfgaaGreatDoor

namespace Go.Proofs.YtcjacgjeiljfgaaGreatDoor
open Go.RowKit

/-- The state of a reader between two words. -/
structure FSt (w W : World) (b : Nat) (s : ByteArray) (p : PS) (c : Cm) (v : Value) : Prop where
  ps : PSAt W b s p
  gr : w.grownBy W (some b)
  b0 : W.heap[w.heap.size]? = some (.cells (cmC (cm0 0) nilV).toArray 38 (0, 0))
  b1 : W.heap[w.heap.size + 1]? = some (.cells (cmC c v).toArray 38 (0, 0))
section
variable {w W W' : World} {b : Nat} {s : ByteArray} {p p' : PS} {c c' : Cm} {v v' : Value}
theorem FSt.call (h : FSt w W b s p c v) (hb : b < w.heap.size) (h' : PSAt W' b s p') (hg : W.grownBy W' (some b)) : FSt w W' b s p' c v :=
  ⟨h', grown_trans h.gr hg, grown_block hg h.b0 (by simp; omega), grown_block hg h.b1 (by simp; omega)⟩
theorem FSt.set (h : FSt w W b s p c v) (hb : b < w.heap.size) (o : Nat) (x : Value) (hp : (W.setCell ⟨w.heap.size + 1, o, none⟩ x).heap[w.heap.size + 1]? = some (.cells (cmC c' v').toArray 38 (0, 0))) : FSt w (W.setCell ⟨w.heap.size + 1, o, none⟩ x) b s p c' v' :=
  ⟨h.ps.other (heap_setCell_other W ⟨w.heap.size + 1, o, none⟩ b x (by show b ≠ w.heap.size + 1; omega)), grown_new h.gr (by omega) x, (heap_setCell_other W ⟨w.heap.size + 1, o, none⟩ w.heap.size x (by show w.heap.size ≠ w.heap.size + 1; omega)).trans h.b0, hp⟩
theorem FSt.start (h : PSAt w b s p) (k : Int) : FSt w ((w.alloc (.cells (cmC (cm0 0) nilV).toArray 38)).alloc (.cells (cmC (cm0 k) nilV).toArray 38)) b s p (cm0 k) nilV :=
  have g0 := ((Gr.refl w).alloc (.cells (cmC (cm0 0) nilV).toArray 38)).alloc (.cells (cmC (cm0 k) nilV).toArray 38)
  ⟨h.gr g0, grown_gr g0, heap_alloc2_old w _ _, heap_alloc2_new w _ _⟩
theorem auts_keep {W W' : World} {b n k : Nat} {a : Option Addr} {l : List Aut} (h : AutsAt W (.slice a n k) l) (hg : W.grownBy W' (some b)) (hb : ∀ x, a = some x → x.block ≠ b) : AutsAt W' (.slice a n k) l := by
  obtain ⟨a', cap, hv, hc, hj⟩ := h
  injection hv with e1 e2 e3
  subst e1; subst e3
  refine ⟨a, k, by rw [e2], hc, fun j hlt => ?_⟩
  obtain ⟨q, o, ha, hz, h1, h2⟩ := hj j hlt
  have hh := hg.block q hz (fun e => hb _ ha (by simpa using e))
  have hcell : ∀ i, i < 16 → W'.cell? ((⟨q, o + j * 16, none⟩ : Addr).add i) = W.cell? ((⟨q, o + j * 16, none⟩ : Addr).add i) := fun i _ => World.cell?_of_block (w := W) (by rw [add_block]; exact hh)
  exact ⟨q, o, ha, Nat.lt_of_lt_of_le hz hg.size, (hasRow_congr hcell).trans h1, (rowAt_congr hcell).trans h2⟩
theorem FSt.lt (h : FSt w W b s p c v) : w.heap.size + 1 < W.heap.size := (Array.getElem?_eq_some_iff.1 h.b1).1
end
def read3 (n : Nat) (s : Str) (p : PS) : PS × Cm :=
  let q1 := p.groupP n
  let q2 := q1.1.numP n 0 1000000
  let q3 := q2.1.modeP n
  let q4 := q3.1.restP s
  (q4.1, { cm0 3 with group := bs q1.2, version := q2.2, moderated := q3.2.1, mods := q3.2.2, text := bs q4.2 })
set_option maxRecDepth 100000 in
set_option maxHeartbeats 4000000 in
theorem form3C (b : Nat) (s : ByteArray) (p : PS) (w : World) (h : PSAt w b s p) (hok : PSok (bl s) p) (hs : s.size ≤ 1000000) (hE : Env w) (hb : 1 < b) :
    Calls Tryz.prog 50 #[.pointer (some ⟨b, 0, none⟩)] w (RdPost b s (read3 s.size (bl s) p).1 w (read3 s.size (bl s) p).2) := by
  have hz := h.facts.2.2.2.2.2.2
  have S0 := Lib.hid (FSt.start h 3)
  have HG := Lib.hid (groupC b s p _ S0.out.ps hok hs (hE.grown S0.out.gr hb) hb)
  have HE := Lib.hid hE; have HOK := Lib.hid (hok.group s.size)
  have HR : Hid (read3 s.size (bl s) p = (((((p.groupP s.size).1.numP s.size 0 1000000).1.modeP s.size).1.restP (bl s)).1, { cm0 3 with group := bs (p.groupP s.size).2, version := ((p.groupP s.size).1.numP s.size 0 1000000).2, moderated := (((p.groupP s.size).1.numP s.size 0 1000000).1.modeP s.size).2.1, mods := (((p.groupP s.size).1.numP s.size 0 1000000).1.modeP s.size).2.2, text := bs ((((p.groupP s.size).1.numP s.size 0 1000000).1.modeP s.size).1.restP (bl s)).2 })) := rfl
  clear h hok hE
  generalize p.groupP s.size = q at *
  obtain ⟨p1, g⟩ := q
  simp only at HG HR HOK
  go_enter Tryz.func50, Tryz.ntmps50
  go_wp2_with fail
  refine HG.out.mono ?_
  rintro e w1 ⟨rfl, h1, hg1⟩
  have S1 := Lib.hid (S0.out.call hz h1 hg1)
  obtain ⟨c0, c33, c34, c35, c36, c37, c38, c39, r1, q1, r39, q39, r40, q40, r0, q0, z1⟩ := cm_facts S1.out.b1
  have f1 := free_block S1.out.b1 33
  clear h1 hg1 S0 HG c0 c34 c35 c36 c37 c38 c39 r1 q1 r39 q39 r40 q40 r0 q0
  go_wp2_with fail
  have S2 := Lib.hid (S1.out.set hz 33 (.string (bs g)) (put_group S1.out.b1 (bs g)))
  clear S1 c33 f1 z1
  generalize w1.setCell ⟨w.heap.size + 1, 33, none⟩ (.string (bs g)) = W2 at *
  have HN := Lib.hid (numberC b s p1 0 1000000 W2 S2.out.ps HOK.out hs (HE.out.grown S2.out.gr hb) hb)
  have HOK2 := Lib.hid (HOK.out.num s.size 0 1000000)
  generalize p1.numP s.size 0 1000000 = q at *
  obtain ⟨p2, nv⟩ := q
  simp only at HN HR HOK2
  refine HN.out.mono ?_
  rintro e w3 ⟨rfl, h3, hg3⟩
  have S3 := Lib.hid (S2.out.call hz h3 hg3)
  obtain ⟨c0, c33, c34, c35, c36, c37, c38, c39, r1, q1, r39, q39, r40, q40, r0, q0, z1⟩ := cm_facts S3.out.b1
  have f1 := free_block S3.out.b1 34
  clear h3 hg3 S2 HN HOK c0 c33 c35 c36 c37 c38 c39 r1 q1 r39 q39 r40 q40 r0 q0
  go_wp2_with fail
  have S4 := Lib.hid (S3.out.set hz 34 (.int .i64 nv) (put_version S3.out.b1 nv))
  clear S3 c34 f1 z1
  generalize w3.setCell ⟨w.heap.size + 1, 34, none⟩ (.int .i64 nv) = W4 at *
  have HM := Lib.hid (modeC b s p2 W4 S4.out.ps HOK2.out hs (HE.out.grown S4.out.gr hb) hb)
  have HOK3 := Lib.hid (HOK2.out.mode s.size)
  generalize p2.modeP s.size = q at *
  obtain ⟨p3, md, ml⟩ := q
  simp only at HM HR HOK3
  refine HM.out.mono ?_
  rintro e w5 ⟨a, n, k, rfl, hA5, hbk5, h5, hg5⟩
  have S5 := Lib.hid (S4.out.call hz h5 hg5)
  have HBK : Hid (∀ x, a = some x → w.heap.size + 1 < x.block) := fun x hx => by have := hbk5 x hx; have := S4.out.lt; omega
  obtain ⟨c0, c33, c34, c35, c36, c37, c38, c39, r1, q1, r39, q39, r40, q40, r0, q0, z1⟩ := cm_facts S5.out.b1
  have f1 := free_block S5.out.b1 35
  have f2 := free_block S5.out.b1 36
  have A5 := Lib.hid hA5
  clear h5 hg5 hA5 hbk5 S4 HM HOK2 c0 c33 c34 c37 c38 c39 r1 q1 r39 q39 r40 q40 r0 q0
  go_wp2_with fail
  have S6 := S5.out.set hz 35 (.bool md) (put_moderated S5.out.b1 md)
  have S7 := Lib.hid (S6.set hz 36 (.slice a n k) (put_mods S6.b1 (.slice a n k)))
  have A7 : Hid (AutsAt ((w5.setCell ⟨w.heap.size + 1, 35, none⟩ (.bool md)).setCell ⟨w.heap.size + 1, 36, none⟩ (.slice a n k)) (.slice a n k) ml) := by
    refine SlAt.keep A5.out (fun x hx => ?_) (by simp)
    have := HBK.out x hx
    exact (heap_setCell_other _ ⟨w.heap.size + 1, 36, none⟩ x.block _ (by show x.block ≠ w.heap.size + 1; omega)).trans (heap_setCell_other w5 ⟨w.heap.size + 1, 35, none⟩ x.block _ (by show x.block ≠ w.heap.size + 1; omega))
  clear S5 S6 A5 c35 c36 f1 f2 z1
  generalize (w5.setCell ⟨w.heap.size + 1, 35, none⟩ (.bool md)).setCell ⟨w.heap.size + 1, 36, none⟩ (.slice a n k) = W7 at *
  have HT := Lib.hid (restC b s p3 W7 S7.out.ps HOK3.out hs)
  generalize p3.restP (bl s) = q at *
  obtain ⟨p4, tx⟩ := q
  simp only at HT HR
  refine HT.out.mono ?_
  rintro e w8 ⟨rfl, h8, hg8⟩
  have S8 := Lib.hid (S7.out.call hz h8 hg8)
  have A8 := Lib.hid (auts_keep A7.out hg8 (fun x hx => by have := HBK.out x hx; omega))
  obtain ⟨c0, c33, c34, c35, c36, c37, c38, c39, r1, q1, r39, q39, r40, q40, r0, q0, z1⟩ := cm_facts S8.out.b1
  have f1 := free_block S8.out.b1 37
  have S9 := S8.out.set hz 37 (.string (bs tx)) (put_text S8.out.b1 (bs tx))
  obtain ⟨-, -, -, -, -, -, -, -, -, -, -, -, -, -, r0', q0', z1'⟩ := cm_facts S9.b1
  have f0 := freeRow_block S9.b0 0 56
  have u0 := hasRow_block S9.b0 0 56 (by rw [cmC_length]; decide)
  have H9 := Lib.hid S9
  clear h8 hg8 S7 S9 A7 HT HOK3 c0 c33 c34 c35 c36 c38 c39 r1 q1 r39 q39 r40 q40 r0 q0
  go_wp2_with fail
  have hw := sets_whole (cs := cmC { cm0 3 with group := bs g, version := nv, moderated := md, mods := ml, text := bs tx } (.slice a n k)) H9.out.b0 (by rw [cmC_length, cmC_length])
  have h5 := H9.out.ps.other (sets_other (b := w.heap.size) (i := b) (by omega) (cmC { cm0 3 with group := bs g, version := nv, moderated := md, mods := ml, text := bs tx } (.slice a n k)) 0 _)
  have hg5 := grown_sets (b := w.heap.size) (Nat.le_refl _) (cmC { cm0 3 with group := bs g, version := nv, moderated := md, mods := ml, text := bs tx } (.slice a n k)) 0 _ H9.out.gr
  have A9 : AutsAt ((w8.setCell ⟨w.heap.size + 1, 37, none⟩ (.string (bs tx))).setCells w.heap.size 0 (cmC { cm0 3 with group := bs g, version := nv, moderated := md, mods := ml, text := bs tx } (.slice a n k))) (.slice a n k) ml := by
    refine SlAt.keep A8.out (fun x hx => ?_) (by rw [sets_size]; simp)
    have := HBK.out x hx
    exact (sets_other (by omega) _ 0 _).trans (heap_setCell_other _ ⟨w.heap.size + 1, 37, none⟩ x.block _ (by show x.block ≠ w.heap.size + 1; omega))
  refine bodyPost_ret (v := .agg (cmC { cm0 3 with group := bs g, version := nv, moderated := md, mods := ml, text := bs tx } (.slice a n k)).toArray) (results_cell_row rfl _ _ w.heap.size _ _ _ _ rfl hw Tryz.underlying38 rfl (by rw [List.size_toArray, cmC_length]; kernel_rfl)) rfl ?_
  rw [HR.out]
  exact ⟨a, n, k, rfl, A9, (fun x hx => by have := HBK.out x hx; omega), h5, hg5⟩
end Go.Proofs.YtcjacgjeiljfgaaGreatDoor

namespace Go.Proofs.YtcjacgjeiljfgaaGreatDoor
open Go.RowKit

def alphV : Vector UInt8 64 := vecOf 64 b64S
theorem alph_at : ∀ i : Fin 64, alphV[i.val] = b64C i.val := by decide +kernel
theorem Alph.row {w : World} (h : Alph w) : hasRow w ⟨0, 0, none⟩ 64 = true ∧ rowAt w ⟨0, 0, none⟩ 64 = bC alphV := by
  have e : ∀ i, i < 64 → w.cell? ((⟨0, 0, none⟩ : Addr).add i) = some (cU (b64C i)) := fun i hi => by rw [Addr.add_lit, Nat.zero_add]; exact h i hi
  refine ⟨hasRow_iff.2 fun i hi => by rw [e i hi]; rfl, ?_⟩
  apply List.ext_getElem?
  intro i
  by_cases hi : i < 64
  · rw [bC_at alphV i hi]
    unfold rowAt
    rw [List.getElem?_map, List.getElem?_range hi, Option.map_some, e i hi, alph_at ⟨i, hi⟩]; rfl
  · rw [List.getElem?_eq_none (by unfold rowAt; simp; omega), List.getElem?_eq_none (by rw [bC_length]; omega)]
/-- The entries of the first n characters. -/
def vEnt (n : Nat) : List MapEntry := (List.range n).map fun i => { key := .int .u8 ((b64C i).toNat : Int), val := .int .i64 (i : Int), born := i }
def vMap (n : Nat) : Obj := .map (vEnt n).toArray n
theorem vEnt_succ (n : Nat) : vEnt (n + 1) = vEnt n ++ [{ key := .int .u8 ((b64C n).toNat : Int), val := .int .i64 (n : Int), born := n }] := by unfold vEnt; rw [List.range_succ, List.map_append]; rfl
def newB (o : Option (Option (Nat × Value))) : Bool := match o with | some none => true | _ => false
theorem new_fin : ∀ k : Fin 64, newB (Instr.findNow (.int .u8) (.int .u8 ((b64C k.val).toNat : Int)) (vEnt k.val) 0) = true := by decide +kernel
theorem val_new (k : Nat) (h : k < 64) : Instr.findNow (.int .u8) (.int .u8 ((b64C k).toNat : Int)) (vEnt k) 0 = some none := by
  have h := new_fin ⟨k, h⟩
  simp only at h
  unfold newB at h
  split at h
  · assumption
  · cases h
def hitB (c : UInt8) (o : Option (Option (Nat × Value))) : Bool := match o with | some none => !b64B c | some (some (_, .int .i64 x)) => b64B c && x == b64V c | _ => false
theorem hit_all : ∀ c : UInt8, hitB c (Instr.findNow (.int .u8) (.int .u8 (c.toNat : Int)) (vEnt 64) 0) = true := all_u8 (by decide +kernel)
theorem val_hit (c : UInt8) : (b64B c = false ∧ Instr.findNow (.int .u8) (.int .u8 (c.toNat : Int)) (vEnt 64) 0 = some none) ∨ (b64B c = true ∧ ∃ j, Instr.findNow (.int .u8) (.int .u8 (c.toNat : Int)) (vEnt 64) 0 = some (some (j, .int .i64 (b64V c)))) := by
  have h := hit_all c
  generalize Instr.findNow (.int .u8) (.int .u8 (c.toNat : Int)) (vEnt 64) 0 = o at *
  unfold hitB at h
  split at h
  · exact .inl ⟨by simpa using h, rfl⟩
  · rename_i j x
    rw [Bool.and_eq_true, beq_iff_eq] at h
    exact .inr ⟨h.1, j, by rw [h.2]⟩
  · cases h
section
variable {P : Program} {mty kt et : TypeId} (w : World)
theorem run_vput (hm : P.underlying mty = some (.map kt et)) (hk : P.underlying kt = some (.int .u8)) (k : Nat) (h : k < 64) :
    (Instr.mapUpdate mty (.map (some w.heap.size)) (.int .u8 ((b64C k).toNat : Int)) (.int .i64 (k : Int))).run P (w.alloc (vMap k)) = .ok () (w.alloc (vMap (k + 1))) := by
  have hf := val_new k h
  have hb : (w.alloc (vMap k)).heap[w.heap.size]? = some (.map (vEnt k).toArray k) := heap_alloc_new w _
  have hc : (Instr.checkKey false 10000 kt (.int .u8 ((b64C k).toNat : Int))).run P (w.alloc (vMap k)) = .ok () (w.alloc (vMap k)) := MapKept.run_checkKey (k := .int .u8 ((b64C k).toNat : Int)) hk (by simp [MapKept.IsKey]) false 9999
  have hw : ({ w.alloc (vMap k) with heap := (w.alloc (vMap k)).heap.setIfInBounds w.heap.size (.map ((vEnt k).toArray.push { key := .int .u8 ((b64C k).toNat : Int), val := .int .i64 (k : Int), born := k }) (k + 1)) } : World) = w.alloc (vMap (k + 1)) := by
    have e : (vEnt (k + 1)).toArray = (vEnt k).toArray.push { key := .int .u8 ((b64C k).toNat : Int), val := .int .i64 (k : Int), born := k } := by rw [vEnt_succ]; simp
    unfold vMap World.alloc
    rw [e]
    simp only [World.mk.injEq, and_true]
    apply Array.ext_getElem?
    intro i
    rw [Array.getElem?_setIfInBounds, Array.getElem?_push, Array.getElem?_push]
    by_cases hi : w.heap.size = i
    · subst hi; simp
    · rw [if_neg hi, if_neg (fun e => hi e.symm), if_neg (fun e => hi e.symm)]
  simp only [Instr.mapUpdate, Sem.run_bind, run_underlying hm, Result.andThen_ok, MapKept.run_getObj_map hb, hc]
  rw [MapKept.run_findKey hk (a := none) (by simpa using hf)]
  simp only [Result.andThen_ok]
  rw [MapKept.run_setObj_map _ hb, hw]
theorem run_vget (hm : P.underlying mty = some (.map kt et)) (hk : P.underlying kt = some (.int .u8)) {W : World} {r : Nat} (hb : W.heap[r]? = some (vMap 64)) (c : UInt8) (z : Value) (hz : (zeroValue et).run P W = .ok z W) :
    (b64B c = false ∧ (Instr.lookup mty (.map (some r)) (.int .u8 (c.toNat : Int)) true).run P W = .ok (.tuple #[z, .bool false]) W) ∨ (b64B c = true ∧ (Instr.lookup mty (.map (some r)) (.int .u8 (c.toNat : Int)) true).run P W = .ok (.tuple #[.int .i64 (b64V c), .bool true]) W) := by
  have hb : W.heap[r]? = some (.map (vEnt 64).toArray 64) := hb
  have hc : ∀ b, (Instr.checkKey b 10000 kt (.int .u8 (c.toNat : Int))).run P W = .ok () W := fun b => MapKept.run_checkKey (k := .int .u8 (c.toNat : Int)) hk (by simp [MapKept.IsKey]) b 9999
  rcases val_hit c with ⟨h1, hf⟩ | ⟨h1, j, hf⟩
  · refine .inl ⟨h1, ?_⟩
    simp only [Instr.lookup, Sem.run_bind, run_underlying hm, Result.andThen_ok, MapKept.run_getObj_map hb, Sem.run_pure, hc]
    rw [MapKept.run_findKey hk (a := none) (by simpa using hf)]
    simp [hz]
  · refine .inr ⟨h1, ?_⟩
    simp only [Instr.lookup, Sem.run_bind, run_underlying hm, Result.andThen_ok, MapKept.run_getObj_map hb, Sem.run_pure, hc]
    rw [MapKept.run_findKey hk (a := some (j, .int .i64 (b64V c))) (by simpa using hf)]
    simp
end
set_option maxRecDepth 100000 in
set_option maxHeartbeats 2000000 in
theorem valuesC (w : World) (hA : Alph w) : Calls Tryz.prog 173 #[] w fun e w' => ∃ r, e = .returned (.map (some r)) ∧ w.heap.size ≤ r ∧ w'.heap[r]? = some (vMap 64) ∧ Gr w w' := by
  obtain ⟨hru, hrr⟩ := hA.row
  have hz := hA.lt
  have hmk : (Instr.makeMap 231 (some (.int .i64 64))).run Tryz.prog w = .ok (.map (some w.heap.size)) (w.alloc (vMap 0)) := by
    simp [Instr.makeMap, run_underlying Tryz.underlying231, asInt]; rfl
  have G0 : Gr w (w.alloc (vMap 0)) := (Gr.refl w).alloc _
  rw [← G0.hasRow hz] at hru
  rw [← G0.rowAt hz] at hrr
  clear hA
  go_enter Tryz.func173, Tryz.ntmps173
  go_wp2_with fail
  go_loopw [2, 3, 6, 7, 8, 9, 10, 11, 12, 13] (fun _ _ i _ _ _ _ _ _ _ wr => ∃ k : Nat, k ≤ 64 ∧ i = .int .i64 k ∧ wr = w.alloc (vMap k)) (fun _ _ i _ _ _ _ _ _ _ _ => 64 - (intOf i).toNat)
  case atStart => exact ⟨0, Nat.zero_le _, rfl, rfl⟩
  case round =>
    obtain ⟨k, hk, rfl, rfl⟩ := hrel
    by_cases hlt : k < 64
    · have hk1 : (k : Int) < 64 := by omega
      have hk2 : (0 : Int) ≤ (k : Int) := by omega
      have hix := run_indexA 91 Tryz.underlying91 alphV k hlt
      have ha : alphV[k] = b64C k := alph_at ⟨k, hlt⟩
      rw [ha] at hix
      have hpt := run_vput (P := Tryz.prog) w Tryz.underlying231 Tryz.underlying5 k hlt
      generalize (b64C k).toNat = x at *
      clear ha hru hrr
      go_wp2_with fail
      go_roundw
      case rel => exact ⟨k + 1, by omega, by go_num, rfl⟩
      case measure => simp [intOf]; omega
    · have hk1 : ¬ (k : Int) < 64 := by omega
      have HK : Hid (k = 64) := by show _ = _; omega
      clear hk hlt
      go_wp2_with fail
      go_ret
      exact ⟨w.heap.size, rfl, Nat.le_refl _, by rw [HK.out]; exact heap_alloc_new w _, (Gr.refl w).alloc _⟩
end Go.Proofs.YtcjacgjeiljfgaaGreatDoor

namespace Go.Proofs.YtcjacgjeiljfgaaGreatDoor
open Go.RowKit

theorem run_byte (s : ByteArray) (i : Int) (k : Nat) (hi : i = (k : Int)) (hk : k < s.size) (w : World) : (Instr.index 9 (.string s) (.int .i64 i)).run Tryz.prog w = .ok (.int .u8 (((bl s).getD k 0).toNat : Int)) w := by
  subst hi
  rw [run_index_string w 9 _ .i64 _ Tryz.underlying9, dif_pos (by constructor <;> (first | omega | (show (k : Int) < (s.size : Int); omega)))]
  have hgd : (bl s).getD k 0 = s[k] := by
    rw [List.getD_eq_getElem?_getD, List.getElem?_eq_getElem (by rw [bl_length]; exact hk)]; rfl
  rw [hgd]
  simp only [Int.toNat_natCast]
set_option maxHeartbeats 1000000 in
theorem sizeC (w : World) : Calls Tryz.prog 170 #[.int .i64 131072] w fun e w' => e = .returned (.int .i64 174764) ∧ w = w' := by
  go_enter Tryz.func170, Tryz.ntmps170
  go_wp2
  all_goals
    go_ret
    exact ⟨rfl, rfl⟩
set_option maxHeartbeats 2000000 in
theorem dataC (s : ByteArray) (w : World) (hs : s.size ≤ 1000000) : Calls Tryz.prog 171 #[.string s] w fun e w' => e = .returned (.int .i64 (datN (bl s) : Nat)) ∧ w = w' := by
  have hl := bl_length s
  by_cases h0 : s.size = 0 ∨ s.size % 4 ≠ 0
  · have HD : Hid (datN (bl s) = s.size) := by
      show _ = _; unfold datN; rw [if_pos (by rw [hl]; rcases h0 with h | h; exact .inl h; exact .inr (.inl h)), hl]
    clear hl
    by_cases h1 : s.size = 0
    · have i1 : ((s.size : Int) == 0) = true := beq_iff_eq.2 (by omega)
      have HS : Hid ((s.size : Int) = 0) := by show _ = _; omega
      clear h0 h1
      go_enter Tryz.func171, Tryz.ntmps171
      go_wp2_with fail
      go_ret
      exact ⟨by rw [HD.out]; rfl, rfl⟩
    · have i1 : ((s.size : Int) == 0) = false := beq_eq_false_iff_ne.2 (by omega)
      have i2 : ((s.size : Int) % 4 != 0) = true := bne_iff_ne.2 (by omega)
      clear h0 h1
      go_enter Tryz.func171, Tryz.ntmps171
      go_wp2_with fail
      go_ret
      exact ⟨by rw [HD.out]; rfl, rfl⟩
  · have i1 : ((s.size : Int) == 0) = false := beq_eq_false_iff_ne.2 (by omega)
    have i2 : ((s.size : Int) % 4 != 0) = false := bne_eq_false_iff_eq.2 (by omega)
    have hx1 := run_byte s ((s.size : Int) - 1) (s.size - 1) (by omega) (by omega)
    have hx2 := run_byte s ((s.size : Int) - 2) (s.size - 2) (by omega) (by omega)
    have hw1 : IntKind.i64.wrap ((s.size : Int) - 1) = (s.size : Int) - 1 := by rw [IntKind.wrap_i64]; omega
    have hw2 : IntKind.i64.wrap ((s.size : Int) - 2) = (s.size : Int) - 2 := by rw [IntKind.wrap_i64]; omega
    by_cases h1 : (bl s).getD (s.size - 1) 0 = 61
    · by_cases h2 : (bl s).getD (s.size - 2) 0 = 61
      · have HD : Hid (datN (bl s) = s.size - 2) := by
          show _ = _; unfold datN; rw [hl, if_neg (by rintro (h | h | h); exact h0 (.inl h); exact h0 (.inr h); exact h h1), if_pos h2]
        have HS : Hid (((s.size - 2 : Nat) : Int) = (s.size : Int) - 2) := by show _ = _; omega
        rw [h1] at hx1
        rw [h2] at hx2
        clear h1 h2 h0 hl
        go_enter Tryz.func171, Tryz.ntmps171
        go_wp2_with fail
        go_ret
        exact ⟨by rw [HD.out, HS.out]; rfl, rfl⟩
      · have HD : Hid (datN (bl s) = s.size - 1) := by
          show _ = _; unfold datN; rw [hl, if_neg (by rintro (h | h | h); exact h0 (.inl h); exact h0 (.inr h); exact h h1), if_neg h2]
        have HS : Hid (((s.size - 1 : Nat) : Int) = (s.size : Int) - 1) := by show _ = _; omega
        have i3 : ((((bl s).getD (s.size - 2) 0).toNat : Int) == 61) = false := beq_eq_false_iff_ne.2 fun e => h2 (UInt8.toNat_inj.1 (by show _ = 61; omega))
        rw [h1] at hx1
        generalize (((bl s).getD (s.size - 2) 0).toNat : Int) = x at *
        clear h1 h2 h0 hl
        go_enter Tryz.func171, Tryz.ntmps171
        go_wp2_with fail
        go_ret
        exact ⟨by rw [HD.out, HS.out]; rfl, rfl⟩
    · have HD : Hid (datN (bl s) = s.size) := by
        show _ = _; unfold datN; rw [hl, if_pos (.inr (.inr h1))]
      have i3 : ((((bl s).getD (s.size - 1) 0).toNat : Int) != 61) = true := bne_iff_ne.2 fun e => h1 (UInt8.toNat_inj.1 (by show _ = 61; omega))
      generalize (((bl s).getD (s.size - 1) 0).toNat : Int) = x at *
      clear h1 h0 hl hx2
      go_enter Tryz.func171, Tryz.ntmps171
      go_wp2_with fail
      go_ret
      exact ⟨by rw [HD.out]; rfl, rfl⟩
theorem OwnU.neMap {w : World} {base : Nat} {v : Value} {l : List UInt8} (h : OwnU w base v l) {k : Nat} {es : Array MapEntry} {n : Nat} (hk : w.heap[k]? = some (.map es n)) : v.ownBlock ≠ some k := by
  obtain ⟨_, h2⟩ := h
  rcases h2 with ⟨rfl, _⟩ | ⟨g, cap, cur, rfl, _, hh, _⟩
  · simp [Value.ownBlock]
  · intro e
    have e' : g = k := by simpa [Value.ownBlock] using e
    rw [e', hk] at hh
    cases hh
/-- The text that is collected, and the map at r. -/
def TxM (r X T base : Nat) (W : World) (gs : List Nat) : Prop := TxS X T base UInt8.ofNat W gs ∧ W.heap[r]? = some (vMap 64)
set_option maxRecDepth 100000 in
set_option maxHeartbeats 4000000 in
theorem dec1C (r X T base : Nat) (w0 : World) (hT : T < X) (hb0 : w0.heap.size ≤ base) (hbT : base ≤ T) (W : World) (l : List Nat) (g : Nat) (fr b c : Int) (hll : l.length ≤ 999000) (hg : g < 256) (hS : TxM r X T base W l) (hR : RgAt W X fr 8 (.func (.func 172) #[] #[ptr T]) b c) (hG : Gr w0 W) :
    Calls Tryz.prog 172 #[.int .i64 (g : Int), ptr T] W fun e W' => e = .returned (.tuple #[]) ∧ TxM r X T base W' (l ++ [g]) ∧ RgAt W' X fr 8 (.func (.func 172) #[] #[ptr T]) b c ∧ Gr w0 W' := by
  obtain ⟨⟨v, h1, h2, h3, h4⟩, h5⟩ := hS
  have HM := Lib.hid h5
  have HMN := Lib.hid (h2.neMap h5)
  have HMT : r ≠ T := fun e => by rw [e, h1] at h5; cases h5
  have HMZ := Lib.hid (Array.getElem?_eq_some_iff.1 h5).1
  clear h5
  have hc : W.cell? ⟨T, 0, none⟩ = some v := cell_block (cs := [v]) h1 0
  have hf := free_block (cs := [v]) h1 0
  have hz := (Array.getElem?_eq_some_iff.1 h1).1
  obtain ⟨d, hd⟩ : ∃ d, UInt8.ofNat g = d := ⟨_, rfl⟩
  have hdg : (d.toNat : Int) = (g : Int) := by rw [← hd, UInt8.toNat_ofNat']; omega
  have hwu : IntKind.u8.wrap (g : Int) = (d.toNat : Int) := by rw [hdg]; unfold IntKind.wrap; simp [IntKind.bits, IntKind.signed]; omega
  have hvT : v.ownBlock ≠ some T := h2.ne h1 (by decide)
  have H1 := Lib.hid h1; have H2 := Lib.hid h2; have HR := Lib.hid hR; have HG := Lib.hid hG; have HGG := Lib.hid hG.size
  have HV : Hid (∀ k, v.ownBlock = some k → k < X ∨ X + 4 < k) := hR.away h2
  have HD := Lib.hid hd
  clear h1 h2 hR hG h3 h4 hd hdg
  unfold ptr
  go_enter Tryz.func172, Tryz.ntmps172
  have O7 := Lib.hid (H2.out.gr ((Gr.refl W).alloc (.cells #[.int .u8 (d.toNat : Int)] 5)))
  have O8 : Hid (OwnU (W.alloc (.cells #[.int .u8 (d.toNat : Int)] 5)) base (.slice (some ⟨W.heap.size, 0, none⟩) 1 1) [d]) := OwnU.made (l := [d]) (heap_alloc_new W _) (by omega) (by simp)
  have z7 : base ≤ (W.alloc (.cells #[.int .u8 (d.toNat : Int)] 5)).heap.size := by simp; omega
  have B7 := Lib.hid ((((Gr.refl W).alloc (.cells #[.int .u8 (d.toNat : Int)] 5)).block hz).trans H1.out)
  go_wp2_with (at_builtin; refine wpList_append_u8 _ rfl _ _ rfl base v (l.map UInt8.ofNat) (by simp [Act.eval]) O7.out (.slice (some ⟨W.heap.size, 0, none⟩) 1 1) [d] (by simp [Act.eval]) O8.out (l.length + 1) (by simp) (by omega) z7 ?_; intro x1 n1 w1 ho0 hg0; have b3 := grown_block hg0 B7.out hvT; have c3 : w1.cell? ⟨T, 0, none⟩ = some v := cell_block (cs := [v]) b3 0; have f3 := free_block (cs := [v]) b3 0; have z3 := (Array.getElem?_eq_some_iff.1 b3).1)
  have hb1 : Hid ((w1.setCell ⟨T, 0, none⟩ (.slice x1 (l.length + 1) n1)).heap[T]? = some (.cells #[.slice x1 (l.length + 1) n1] 93 (0, 0))) := heap_setCell_same w1 T 0 _ _ _ b3
  have ho1 := Lib.hid (ho0.set T 0 (.slice x1 (l.length + 1) n1) (ho0.ne b3 (by decide)))
  have hr1 := Lib.hid (((HR.out.gr ((Gr.refl W).alloc _)).grown hg0 HV.out).grown (grown_set w1 T 0 (.slice x1 (l.length + 1) n1)) (fun k hk => by cases hk; exact .inl hT))
  have hg1 := Lib.hid (((HG.out.trans ((Gr.refl W).alloc _)).grown hg0 (fun k hk => Nat.le_trans hb0 (World.ownsRow.lt H2.out k hk).1)).setOwn (b := T) (o := 0) (by omega) (.slice x1 (l.length + 1) n1))
  have hm1 : Hid ((w1.setCell ⟨T, 0, none⟩ (.slice x1 (l.length + 1) n1)).heap[r]? = some (vMap 64)) := (heap_setCell_other w1 ⟨T, 0, none⟩ r _ HMT).trans (grown_block hg0 ((((Gr.refl W).alloc _).block HMZ.out).trans HM.out) HMN.out)
  go_end0
  have hn := hr1.out.away ho1.out
  have e : (l ++ [g]).map UInt8.ofNat = l.map UInt8.ofNat ++ [d] := by rw [List.map_append, ← HD.out]; rfl
  refine ⟨rfl, ⟨⟨.slice x1 (l.length + 1) n1, hb1.out, by rw [e]; exact ho1.out, fun q => ?_, fun q => ?_⟩, hm1.out⟩, hr1.out, hg1.out⟩
  · have := hn _ q; omega
  · have := hn _ q; omega
theorem dec_pass (r X T base : Nat) (w0 : World) (hT : T < X) (hr : X + 4 < r) (hb0 : w0.heap.size ≤ base) (hbT : base ≤ T) : Pass 8 X w0 172 T (TxM r X T base) :=
  ⟨enters_of Tryz.func172 (by kernel_rfl) rfl, fun W l k u hk h => ⟨TxS.set hT W l k u hk h.1, (heap_setCell_other W ⟨k, 0, none⟩ r u (by show r ≠ k; omega)).trans h.2⟩, fun W W' l h hg => ⟨TxS.gr W W' l h.1 hg, (hg.block (Array.getElem?_eq_some_iff.1 h.2).1).trans h.2⟩, fun W l g fr b c hll hg hS hR hG => dec1C r X T base w0 hT hb0 hbT W l g fr b c hll hg hS hR hG⟩
end Go.Proofs.YtcjacgjeiljfgaaGreatDoor

namespace Go.Proofs.YtcjacgjeiljfgaaGreatDoor
open Go.RowKit

theorem datN_le (s : Str) : datN s ≤ s.length := by unfold datN; repeat' split
                                                    all_goals omega
theorem bad_lt {s : Str} {k : Nat} (hk : k < datN s) (hb : b64B (s.getD k 0) = false) : badB64 s < datN s := by
  unfold badB64
  have hl : (s.take (datN s)).length = datN s := by rw [List.length_take]; have := datN_le s; omega
  rcases Nat.lt_or_ge ((s.take (datN s)).takeWhile b64B).length (datN s) with h | h
  · exact h
  · exfalso
    have he := all_takeWhile (p := b64B) (s := s.take (datN s)) (by omega)
    have hlen := datN_le s
    have hm : s.getD k 0 ∈ s.take (datN s) := by
      rw [List.getD_eq_getElem?_getD, List.getElem?_eq_getElem (show k < s.length by omega), Option.getD_some]
      exact List.mem_iff_getElem.2 ⟨k, by omega, by simp⟩
    have := List.all_eq_true.1 he _ hm
    rw [hb] at this; cases this
theorem bad_ge {s : Str} (h : (s.take (datN s)).all b64B = true) : ¬ badB64 s < datN s := by
  unfold badB64
  rw [takeWhile_all h, List.length_take]
  have := datN_le s; omega
theorem getD_at {s : Str} {k : Nat} (h : k < s.length) : s.getD k 0 = s[k] := by
  rw [List.getD_eq_getElem?_getD, List.getElem?_eq_getElem h, Option.getD_some]
theorem grp_snoc6 (s : Str) (k : Nat) (h : k < s.length) : grp 8 (bits6 (s.take (k + 1))) = ((grp 8 (bits6 (s.take k))).1 ++ (grp 8 ((grp 8 (bits6 (s.take k))).2 ++ bitsK 6 (b64V (s.getD k 0)).toNat)).1, (grp 8 ((grp 8 (bits6 (s.take k))).2 ++ bitsK 6 (b64V (s.getD k 0)).toNat)).2) := by
  have e : bits6 (s.take (k + 1)) = bits6 (s.take k) ++ bitsK 6 (b64V (s.getD k 0)).toNat := by
    rw [List.take_succ_eq_append_getElem h, getD_at h]; unfold bits6; rw [List.flatMap_append]; simp
  rw [e]; exact grp_app (by decide) _ _ _ (Nat.le_refl _)
theorem all_snoc6 (s : Str) (k : Nat) (h : k < s.length) (h1 : (s.take k).all b64B = true) (h2 : b64B (s.getD k 0) = true) : (s.take (k + 1)).all b64B = true := by
  rw [List.take_succ_eq_append_getElem h, List.all_append, h1]
  rw [getD_at h] at h2; simp [h2]
/-- What Decode leaves. -/
def DecPost (s : Str) (w : World) (e : Ending) (w' : World) : Prop := ∃ v pos, e = .returned (.tuple #[v, .int .i64 pos, .int .i64 (decE s)]) ∧ OwnU w' w.heap.size v (if decE s = 0 then decB s else []) ∧ Gr w w'
theorem dec_bad {s : Str} {w w' : World} {pos e : Int} (he : decE s = e) (h0 : e ≠ 0) (hg : Gr w w') : DecPost s w (.returned (.tuple #[.slice none 0 0, .int .i64 pos, .int .i64 e])) w' := by
  refine ⟨_, pos, by rw [he], ?_, hg⟩
  rw [he, if_neg h0]; exact World.ownsRow_nil _ _ _ _
set_option maxRecDepth 100000 in
set_option maxHeartbeats 4000000 in
theorem decodeC (s : ByteArray) (w : World) (hA : Alph w) (hs : s.size ≤ 1000000) : Calls Tryz.prog 150 #[.string s] w (DecPost (bl s) w) := by
  by_cases hbig : 174764 < s.size
  · have HE : Hid (decE (bl s) = 5) := by show _ = _; unfold decE; rw [bl_length, if_pos hbig]
    have hk1 : (174764 : Int) < (s.size : Int) := by omega
    clear hbig
    go_enter Tryz.func150, Tryz.ntmps150
    go_wp2_with (go_at_call 170; refine (sizeC _).mono ?_; rintro e w' ⟨rfl, rfl⟩)
    go_ret3
    exact dec_bad HE.out (by decide) (Gr.refl w)
  · have hk1 : ¬ (174764 : Int) < (s.size : Int) := by omega
    have hnl : datN (bl s) ≤ s.size := by have := datN_le (bl s); rwa [bl_length] at this
    have HE : Hid (decE (bl s) = if badB64 (bl s) < datN (bl s) then 6 else if s.size % 4 ≠ 0 then 4 else if valB (grp 8 (bits6 ((bl s).take (datN (bl s))))).2 ≠ 0 then 3 else 0) := by
      show _ = _; unfold decE decR; rw [bl_length, if_neg hbig]
    have HB : Hid (decB (bl s) = (grp 8 (bits6 ((bl s).take (datN (bl s))))).1.map UInt8.ofNat) := rfl
    have HLT : Hid (∀ k, k < datN (bl s) → b64B ((bl s).getD k 0) = false → badB64 (bl s) < datN (bl s)) := fun k h1 h2 => bad_lt h1 h2
    have HGE : Hid (((bl s).take (datN (bl s))).all b64B = true → ¬ badB64 (bl s) < datN (bl s)) := bad_ge
    have HDC : Hid (∀ W, Calls Tryz.prog 171 #[.string s] W fun e w' => e = .returned (.int .i64 (datN (bl s) : Nat)) ∧ W = w') := fun W => dataC s W hs
    generalize datN (bl s) = n at *
    generalize badB64 (bl s) = bd at *
    obtain ⟨N, hN, hN1⟩ : ∃ N : Nat, ((n : Int) * 6) / 8 = (N : Int) ∧ N ≤ 140000 := ⟨(n * 6) / 8, by omega, by omega⟩
    have hmk : ∀ w, (Instr.makeSlice 93 (.int .i64 0) (.int .i64 (((n : Int) * 6) / 8))).run Tryz.prog w = .ok (.slice (some ⟨w.heap.size, 0, none⟩) 0 N) (w.alloc (.cells (madeCells #[.int .u8 0] N) 5)) := by
      rw [hN]; exact run_makeU N (by omega)
    have HOO := Lib.hid ((OwnU.fresh w w.heap.size N w.heap.size rfl (Nat.le_refl _) (by omega)).gr ((Gr.refl _).alloc (.cells #[.slice (some ⟨w.heap.size, 0, none⟩) 0 N] 93)))
    have HTT := Lib.hid (heap_alloc2_new w (.cells (madeCells #[.int .u8 0] N) 5) (.cells #[.slice (some ⟨w.heap.size, 0, none⟩) 0 N] 93))
    have HGG := Lib.hid (((Gr.refl w).alloc (.cells (madeCells #[.int .u8 0] N) 5)).alloc (.cells #[.slice (some ⟨w.heap.size, 0, none⟩) 0 N] 93))
    have HSZ : Hid (((w.alloc (.cells (madeCells #[.int .u8 0] N) 5)).alloc (.cells #[.slice (some ⟨w.heap.size, 0, none⟩) 0 N] 93)).heap.size = w.heap.size + 2) := by show _ = _; simp
    have HA := Lib.hid hA
    clear hA hN hbig
    go_enter Tryz.func150, Tryz.ntmps150
    go_wp2_with (first | (go_at_call 170; refine (sizeC _).mono ?_; rintro e w' ⟨rfl, rfl⟩) | (go_at_call 171; refine (HDC.out _).mono ?_; rintro e w' ⟨rfl, rfl⟩))
    generalize (w.alloc (.cells (madeCells #[.int .u8 0] N) 5)).alloc (.cells #[.slice (some ⟨w.heap.size, 0, none⟩) 0 N] 93) = U0 at *
    refine (regroupC 6 8 (.func 172) #[] #[ptr (w.heap.size + 1)] U0).mono ?_
    rintro e U1 ⟨rfl, hr, hg, hsz⟩
    generalize U0.heap.size = X at *
    have hX := HSZ.out
    have HG1 := Lib.hid (HGG.out.trans hg)
    have HR1 := Lib.hid hr
    have HS1 : Hid (TxS X (w.heap.size + 1) w.heap.size UInt8.ofNat U1 []) := ⟨_, (hg.block (Array.getElem?_eq_some_iff.1 HTT.out).1).trans HTT.out, HOO.out.gr hg, by simp [Value.ownBlock]; omega, by simp [Value.ownBlock]; omega⟩
    have hxw : w.heap.size ≤ X := by omega
    have HVC := Lib.hid (valuesC U1 (HA.out.gr HG1.out))
    have hTX : w.heap.size + 1 < X := by omega
    have HZ5 := Lib.hid hsz
    clear hr hg HSZ HOO HTT HGG hmk HA hsz hX
    unfold fnAdd fnLeft ptr
    go_wp2_with fail
    refine HVC.out.mono ?_
    rintro e U2 ⟨r, rfl, hru, hrm, hg2⟩
    have HP := Lib.hid (dec_pass r X (w.heap.size + 1) w.heap.size w hTX (by have := HZ5.out; omega) (Nat.le_refl _) (by omega))
    have HR2 := Lib.hid (HR1.out.gr hg2)
    have HS2 : Hid (TxM r X (w.heap.size + 1) w.heap.size U2 []) := ⟨TxS.gr _ _ _ HS1.out hg2, hrm⟩
    have HG2 := Lib.hid (HG1.out.trans hg2)
    have HLN : Hid (n ≤ (bl s).length) := by show _ ≤ _; rw [bl_length]; exact hnl
    have HLEN : Hid (∀ k, k ≤ (bl s).length → 8 * (grp 8 (bits6 ((bl s).take k))).1.length + (grp 8 (bits6 ((bl s).take k))).2.length = 6 * k ∧ (grp 8 (bits6 ((bl s).take k))).2.length < 8) := fun k hk => ⟨by rw [grp_len (by decide), bits6_len, List.length_take, Nat.min_eq_left hk], grp_left (by decide) _ _ (Nat.le_refl _)⟩
    clear hru hrm hg2 HR1 HS1 HG1 HVC hN1
    go_wp2_with fail
    go_loopw [10, 11, 12, 32, 33, 34, 35, 36, 37, 38, 39, 40, 41, 42, 43, 44, 46, 47, 48, 49] (fun _ _ _ i _ _ _ _ _ _ _ _ _ _ _ _ _ _ _ _ wr => ∃ k : Nat, k ≤ n ∧ i = .int .i64 k ∧ Hid (((bl s).take k).all b64B = true) ∧ Hid (RgAt wr X 6 8 (.func (.func 172) #[] #[ptr (w.heap.size + 1)]) (valB (grp 8 (bits6 ((bl s).take k))).2 : Nat) ((grp 8 (bits6 ((bl s).take k))).2.length : Nat)) ∧ Hid (TxM r X (w.heap.size + 1) w.heap.size wr (grp 8 (bits6 ((bl s).take k))).1) ∧ Hid (Gr w wr)) (fun _ _ _ i _ _ _ _ _ _ _ _ _ _ _ _ _ _ _ _ _ => n - (intOf i).toNat)
    case atStart => exact ⟨0, Nat.zero_le _, rfl, rfl, HR2.out, HS2.out, HG2.out⟩
    case round =>
      obtain ⟨k, hk, rfl, hAl, hR, hS, hG⟩ := hrel
      by_cases hlt : k < n
      · have hki : (k : Int) < (n : Int) := by omega
        have hk2 : (0 : Int) ≤ (k : Int) := by omega
        have hlk : k < (bl s).length := by have := HLN.out; omega
        have hix := run_byte s (k : Int) k rfl (by omega)
        rcases run_vget (P := Tryz.prog) Tryz.underlying231 Tryz.underlying5 (W := wr) (r := r) hS.out.2 ((bl s).getD k 0) (.int .i64 0) (by kernel_rfl) with ⟨hb, hl⟩ | ⟨hb, hl⟩
        · have HE2 : Hid (decE (bl s) = 6) := by show _ = _; rw [HE.out, if_pos (HLT.out k hlt hb)]
          generalize (bl s).getD k 0 = c at *
          generalize c.toNat = x at *
          clear hb
          go_wp2_with fail
          go_ret3
          exact dec_bad HE2.out (by decide) hG.out
        · have HSN := Lib.hid (grp_snoc6 (bl s) k hlk)
          have HAS := Lib.hid (all_snoc6 (bl s) k hlk hAl.out hb)
          obtain ⟨q1, q2⟩ := HLEN.out k (by omega)
          obtain ⟨-, hg64⟩ := b64_back _ hb
          have hgv : b64V ((bl s).getD k 0) = ((b64V ((bl s).getD k 0)).toNat : Int) := by
            unfold b64B at hb; have := of_decide_eq_true hb; omega
          have HAD := Lib.hid (add68 X 172 (w.heap.size + 1) (TxM r X (w.heap.size + 1) w.heap.size) w HP.out hxw (grp 8 (bits6 ((bl s).take k))).2 q2 (b64V ((bl s).getD k 0)).toNat hg64 (grp 8 (bits6 ((bl s).take k))).1 (by have := HLN.out; rw [bl_length] at this; omega) wr hR.out hS.out hG.out)
          rw [hgv] at hl
          generalize (b64V ((bl s).getD k 0)).toNat = g at *
          generalize ((bl s).getD k 0).toNat = x at *
          clear q1 q2 hR hS hgv hg64 hb
          go_wp2_with fail
          refine HAD.out.mono ?_
          rintro e W3 ⟨rfl, hr3, hs3, hg3⟩
          have HR3 := Lib.hid hr3; have HS3 := Lib.hid hs3; have HG3 := Lib.hid hg3
          clear hr3 hs3 hg3 HAD hl hix
          go_wp2_with fail
          go_roundw
          case rel => exact ⟨k + 1, by omega, by go_num, HAS.out, by show RgAt _ _ _ _ _ _ _; rw [HSN.out]; exact HR3.out, by show TxM _ _ _ _ _ _; rw [HSN.out]; exact HS3.out, HG3.out⟩
          case measure => simp [intOf]; omega
      · have hki : ¬ (k : Int) < (n : Int) := by omega
        obtain rfl : k = n := by omega
        have hge := HGE.out hAl.out
        rw [if_neg hge] at HE
        obtain ⟨q1, q2⟩ := HLEN.out k HLN.out
        generalize grp 8 (bits6 ((bl s).take k)) = rr at *
        obtain ⟨gs, left⟩ := rr
        simp only at hR hS q1 q2 HE HB
        by_cases h4 : s.size % 4 = 0
        · rw [if_neg (by simp [h4])] at HE
          have hm4 : ((s.size : Int) % 4 != 0) = false := bne_eq_false_iff_eq.2 (by omega)
          have HLF := Lib.hid (leftC X 6 8 _ _ _ wr hR.out)
          have HM := Lib.hid hG.out
          clear hge h4 HLT HGE HDC HP HR2 HS2 HG2 HLEN q1 q2 hR hAl
          unfold ptr at HLF
          go_wp2_with fail
          refine HLF.out.mono ?_
          rintro e W3 ⟨rfl, hg3⟩
          have HG3 := Lib.hid (hG.out.trans hg3)
          obtain ⟨v, h1, h2, -, -⟩ := TxS.gr _ _ _ hS.out.1 hg3
          have hc : W3.cell? ⟨w.heap.size + 1, 0, none⟩ = some v := cell_block (cs := [v]) h1 0
          have hz := (Array.getElem?_eq_some_iff.1 h1).1
          have H2 := Lib.hid h2
          clear h1 h2 hg3 HLF hS hG
          by_cases hv : valB left = 0
          · have hv1 : ((valB left : Int) != 0) = false := bne_eq_false_iff_eq.2 (by omega)
            have HE2 : Hid (decE (bl s) = 0) := by show _ = _; rw [HE.out, if_neg (by simp [hv])]
            generalize valB left = vl at *
            clear hv
            go_wp2_with fail
            go_ret3
            exact ⟨v, 0, by rw [HE2.out]; rfl, by rw [HE2.out, if_pos rfl, HB.out]; exact H2.out, HG3.out⟩
          · have hv1 : ((valB left : Int) != 0) = true := bne_iff_ne.2 (by omega)
            have HE2 : Hid (decE (bl s) = 3) := by show _ = _; rw [HE.out, if_pos hv]
            generalize valB left = vl at *
            clear hv
            go_wp2_with fail
            go_ret3
            exact dec_bad HE2.out (by decide) HG3.out
        · rw [if_pos h4] at HE
          have hm4 : ((s.size : Int) % 4 != 0) = true := bne_iff_ne.2 (by omega)
          clear hge h4 HLT HGE HDC HP HR2 HS2 HG2 HLEN q1 q2 hR hAl
          go_wp2_with fail
          go_ret3
          exact dec_bad HE.out (by decide) hG.out
end Go.Proofs.YtcjacgjeiljfgaaGreatDoor

namespace Go.Proofs.YtcjacgjeiljfgaaGreatDoor
open Go.RowKit

def RdAt (W : World) (b : Nat) (v : Value) (e : Int) : Prop := W.heap[b]? = some (.cells #[v, .int .i64 e] 212 (0, 0))
theorem RdAt.facts {W : World} {b : Nat} {v : Value} {e : Int} (h : RdAt W b v e) : W.cell? ⟨b, 0, none⟩ = some v ∧ W.cell? ⟨b, 1, none⟩ = some (.int .i64 e) ∧ (∀ k, W.frozen? ⟨b, k, none⟩ = false) ∧ b < W.heap.size :=
  ⟨cell_block (cs := [v, .int .i64 e]) h 0, cell_block (cs := [v, .int .i64 e]) h 1, fun k => free_block (cs := [v, .int .i64 e]) h k, (Array.getElem?_eq_some_iff.1 h).1⟩
theorem RdAt.gr {W W' : World} {b : Nat} {v : Value} {e : Int} (h : RdAt W b v e) (hg : Gr W W') : RdAt W' b v e := (hg.block (Array.getElem?_eq_some_iff.1 h).1).trans h
def endE (e : Int) (n : Nat) : Int := if e = 0 then (if 0 < n then 5 else 0) else e
set_option maxHeartbeats 1000000 in
theorem endC (b : Nat) (a : Option Addr) (n c : Nat) (e : Int) (W : World) (h : RdAt W b (.slice a n c) e) : Calls Tryz.prog 123 #[.pointer (some ⟨b, 0, none⟩)] W fun x W' => x = .returned (.int .i64 (endE e n)) ∧ W.grownBy W' (some b) := by
  obtain ⟨c0, c1, hf, hz⟩ := h.facts
  have hf1 := hf 1
  clear h hf
  by_cases he : e = 0
  · subst he
    by_cases hn : 0 < n
    · have h1 : (0 : Int) < (n : Int) := by omega
      have HE : Hid (endE 0 n = 5) := by show _ = _; unfold endE; rw [if_pos rfl, if_pos hn]
      clear hn
      go_enter Tryz.func123, Tryz.ntmps123
      go_wp2_with fail
      go_ret
      exact ⟨by rw [HE.out]; rfl, grown_set _ _ _ _⟩
    · have h1 : ¬ (0 : Int) < (n : Int) := by omega
      have HE : Hid (endE 0 n = 0) := by show _ = _; unfold endE; rw [if_pos rfl, if_neg hn]
      clear hn
      go_enter Tryz.func123, Tryz.ntmps123
      go_wp2_with fail
      go_ret
      exact ⟨by rw [HE.out]; rfl, grown_refl _ _⟩
  · have h1 : (e == 0) = false := beq_eq_false_iff_ne.2 he
    have HE : Hid (endE e n = e) := by show _ = _; unfold endE; rw [if_neg he]
    clear he
    go_enter Tryz.func123, Tryz.ntmps123
    go_wp2_with fail
    go_ret
    exact ⟨by rw [HE.out]; rfl, grown_refl _ _⟩
/-- Bytes that a slice holds. -/
def Byt (W : World) (v : Value) (l : List UInt8) : Prop := ∃ a c, v = .slice a l.length c ∧ l.length ≤ c ∧ (l = [] ∨ ∃ g o, a = some ⟨g, o, none⟩ ∧ ByAt W g o l)
theorem made_row (n : Nat) : madeCells #[.int .u8 0] n = ((List.replicate n (0 : UInt8)).map cU).toArray := by
  apply Array.ext'
  rw [toList_madeCells_one, List.map_replicate]; rfl
def tkE (e : Int) : Int := if e = 0 then 4 else e
theorem run_makeN (n : Nat) (h : n ≤ 16) (w : World) : (Instr.makeSlice 93 (.int .i64 (n : Int)) (.int .i64 (n : Int))).run Tryz.prog w = .ok (.slice (some ⟨w.heap.size, 0, none⟩) n n) (w.alloc (.cells (madeCells #[.int .u8 0] n) 5)) := by
  obtain ⟨i, hi, hzz⟩ := Option.map_eq_some_iff.1 infoU0
  simp only [Prod.mk.injEq] at hzz
  obtain ⟨hz, hs, hb⟩ := hzz
  have hr := run_make (P := Tryz.prog) w 93 5 i (.int .u8 0) Tryz.underlying93 hi hz .i64 .i64 n n (by omega) (by omega) (by rw [hb]; omega) (by omega)
  rw [hs] at hr
  simp only [Nat.mul_one, Int.toNat_natCast] at hr
  exact hr
set_option maxRecDepth 100000 in
set_option maxHeartbeats 2000000 in
theorem takeBad (b : Nat) (a : Option Addr) (m c n : Nat) (e : Int) (W : World) (h : RdAt W b (.slice a m c) e) (hn : n ≤ 16) (hb : e ≠ 0 ∨ m < n) : Calls Tryz.prog 122 #[.pointer (some ⟨b, 0, none⟩), .int .i64 n] W fun x W' => ∃ g, x = .returned (.slice (some ⟨g, 0, none⟩) n n) ∧ ByAt W' g 0 (List.replicate n 0) ∧ RdAt W' b (.slice a m c) (tkE e) ∧ W.grownBy W' (some b) := by
  obtain ⟨c0, c1, hf, hz⟩ := h.facts
  have hf1 := hf 1
  have H := Lib.hid h
  clear h hf
  have hmk := run_makeN n hn
  have hrow : Hid (∀ (w : World) (g : Nat), g = w.heap.size → ByAt (w.alloc (.cells (madeCells #[.int .u8 0] n) 5)) g 0 (List.replicate n 0)) := fun w g hg => by
    subst hg
    rw [made_row n]
    exact ⟨by simp, fun j x hj => by rw [Nat.zero_add, cell_block (heap_alloc_new w _), List.getElem?_map, hj]; rfl⟩
  by_cases he : e = 0
  · subst he
    have hm : m < n := by rcases hb with h | h; exact absurd rfl h; exact h
    have hm1 : (m : Int) < (n : Int) := by omega
    have HE : Hid (tkE 0 = 4) := rfl
    clear hb hm hn
    go_enter Tryz.func122, Tryz.ntmps122
    go_wp2_with fail
    go_ret
    refine ⟨_, rfl, hrow.out _ _ (by simp), ?_, grown_trans (grown_set _ _ _ _) (grown_gr ((Gr.refl _).alloc _))⟩
    rw [HE.out]
    exact RdAt.gr (heap_setCell_same W b 1 _ _ _ H.out) ((Gr.refl _).alloc _)
  · have h1 : (e == 0) = false := beq_eq_false_iff_ne.2 he
    have h2 : (e != 0) = true := bne_iff_ne.2 he
    have HE : Hid (tkE e = e) := by show _ = _; unfold tkE; rw [if_neg he]
    clear hb hn he
    go_enter Tryz.func122, Tryz.ntmps122
    go_wp2_with fail
    go_ret
    refine ⟨_, rfl, hrow.out _ _ (by simp), ?_, grown_gr ((Gr.refl _).alloc _)⟩
    rw [HE.out]
    exact H.out.gr ((Gr.refl _).alloc _)
set_option maxRecDepth 100000 in
set_option maxHeartbeats 2000000 in
theorem takeOk (b g o c n : Nat) (l : List UInt8) (W : World) (h : RdAt W b (.slice (some ⟨g, o, none⟩) l.length c) 0) (hl : ByAt W g o l) (hc : l.length ≤ c) (hn : n ≤ l.length) (hll : l.length ≤ 1000000) : Calls Tryz.prog 122 #[.pointer (some ⟨b, 0, none⟩), .int .i64 n] W fun x W' => x = .returned (.slice (some ⟨g, o, none⟩) n c) ∧ (∃ a', RdAt W' b (.slice a' (l.length - n) (c - n)) 0 ∧ (c ≠ n → a' = some ⟨g, o + n, none⟩)) ∧ W.grownBy W' (some b) := by
  obtain ⟨c0, c1, hf, hz⟩ := h.facts
  have hf0 := hf 0
  have H := Lib.hid h
  have HL := Lib.hid hl
  clear h hf hl
  generalize l.length = m at *
  have h1 : ¬ (m : Int) < (n : Int) := by omega
  have h2 : (n : Int) ≤ (c : Int) := by omega
  have h3 : (n : Int) ≤ (m : Int) := by omega
  have s1 : (((m - n : Nat)) : Int) = (m : Int) - (n : Int) := by omega
  have HS : Hid (∀ a', RdAt (W.setCell ⟨b, 0, none⟩ (.slice a' (m - n) (c - n))) b (.slice a' (m - n) (c - n)) 0) := fun a' => heap_setCell_same W b 0 _ _ _ H.out
  clear s1 hc hn
  by_cases hcn : c = n
  · subst hcn
    go_enter Tryz.func122, Tryz.ntmps122
    go_wp2_with fail
    go_ret
    refine ⟨rfl, ⟨some ⟨g, o, none⟩, ?_⟩, grown_set _ _ _ _⟩
    have h := HS.out (some ⟨g, o, none⟩)
    rw [Nat.sub_self] at h; exact h
  · have hcn2 : ¬ (n : Int) = (c : Int) := by omega
    go_enter Tryz.func122, Tryz.ntmps122
    go_wp2_with fail
    go_ret
    exact ⟨rfl, HS.out _, grown_set _ _ _ _⟩
theorem or_zero_u8 : ∀ x : UInt8, bits .or .i64 0 (x.toNat : Int) = (x.toNat : Int) := all_u8 (by decide +kernel)
set_option maxRecDepth 100000 in
set_option maxHeartbeats 2000000 in
theorem number1C (b : Nat) (x0 : UInt8) (R : World → Prop) (W : World) (HT : Calls Tryz.prog 122 #[.pointer (some ⟨b, 0, none⟩), .int .i64 1] W fun x W' => ∃ g o c, x = .returned (.slice (some ⟨g, o, none⟩) 1 c) ∧ W'.cell? ⟨g, o, none⟩ = some (cU x0) ∧ R W') :
    Calls Tryz.prog 121 #[.pointer (some ⟨b, 0, none⟩), .int .i64 1] W fun x W' => x = .returned (.int .i64 (x0.toNat : Int)) ∧ R W' := by
  have HTT := Lib.hid HT
  clear HT
  go_enter Tryz.func121, Tryz.ntmps121
  go_wp2_with fail
  refine HTT.out.mono ?_
  rintro e W1 ⟨g, o, c, rfl, hc, hR⟩
  have HR := Lib.hid hR
  have hz := World.block_lt_of_cell? W1 _ hc
  simp only at hz
  have hor := or_zero_u8 x0
  have hx := x0.toNat_lt
  unfold cU at hc
  obtain ⟨x, hx0⟩ : ∃ x, x0.toNat = x := ⟨_, rfl⟩
  rw [hx0] at hc hor hx
  have HX := Lib.hid hx0
  clear hR HTT hx0
  go_wp2_with fail
  go_loopw [5, 7, 12, 13, 14, 15, 16, 17, 18, 19, 20, 21] (fun v _ i _ _ _ _ _ _ _ _ _ wr => wr = W1 ∧ ((i = .int .i64 0 ∧ v = .int .i64 0) ∨ (i = .int .i64 1 ∧ v = .int .i64 (x : Int)))) (fun _ _ i _ _ _ _ _ _ _ _ _ _ => 1 - (intOf i).toNat)
  case atStart => exact ⟨rfl, .inl ⟨rfl, rfl⟩⟩
  case round =>
    obtain ⟨rfl, ⟨rfl, rfl⟩ | ⟨rfl, rfl⟩⟩ := hrel
    · go_wp2_with fail
      go_roundw
      case rel => first | exact ⟨trivial, .inr ⟨rfl, rfl⟩⟩ | exact ⟨rfl, .inr ⟨rfl, rfl⟩⟩
      case measure => simp [intOf]
    · go_wp2_with fail
      go_ret
      exact ⟨by rw [HX.out]; rfl, HR.out⟩
end Go.Proofs.YtcjacgjeiljfgaaGreatDoor

namespace Go.Proofs.YtcjacgjeiljfgaaGreatDoor
open Go.RowKit

@[go_sem ↓ high] theorem zeroPubV (w : World) : Sem.run Tryz.prog (zeroValue 29) w = .ok (.agg (pubC 0 zAut).toArray) w := by kernel_rfl
@[go_sem ↓ high] theorem st_pubA (w : World) (t : TypeId) (b : Nat) (h h' : Int) (r r' : Aut) (hb : b = w.heap.size) : (w.alloc (.cells (pubC h r).toArray t)).setCells b 0 (pubC h' r') = w.alloc (.cells (pubC h' r').toArray t) := by
  have e := setCells_mid w t b hb [] (pubC h' r') [] (pubC h r) (by rw [pubC_length, pubC_length])
  simpa using e
attribute [local go_sem] oneB_pub
theorem bRdF (a : Option Addr) (n c : Nat) (e : Int) (w : World) : (Instr.build 212 #[(0, .slice a n c), (1, .int .i64 e)]).run Tryz.prog w = .ok (.agg #[.slice a n c, .int .i64 e]) w := by kernel_rfl
@[go_sem] theorem kRd (a : Option Addr) (n c : Nat) (e : Int) (w : World) : bdR Tryz.prog 212 #[(0, .slice a n c), (1, .int .i64 e)] w = .ok (.value (.agg #[.slice a n c, .int .i64 e])) w := bd_of (bRdF a n c e w)
def ReadPost (s : Str) (w : World) (x : Ending) (w' : World) : Prop := ∃ b v, x = .returned (.pointer (some ⟨b, 0, none⟩)) ∧ w.heap.size ≤ b ∧ RdAt w' b v (decE s) ∧ OwnU w' w.heap.size v (if decE s = 0 then decB s else []) ∧ Gr w w'
set_option maxRecDepth 100000 in
set_option maxHeartbeats 2000000 in
theorem readC (s : ByteArray) (w : World) (hA : Alph w) (hs : s.size ≤ 1000000) : Calls Tryz.prog 120 #[.string s] w (ReadPost (bl s) w) := by
  have HD := Lib.hid (decodeC s w hA hs)
  clear hA
  go_enter Tryz.func120, Tryz.ntmps120
  go_wp2_with fail
  refine HD.out.mono ?_
  rintro e w1 ⟨v, pos, rfl, ho, hg⟩
  obtain ⟨a, c, rfl⟩ := ho.shape
  have HO := Lib.hid ho
  have HG := Lib.hid hg
  have hzz := hg.size
  have HPO : Hid (∀ x w', (∃ b v, x = .returned (.pointer (some ⟨b, 0, none⟩)) ∧ w.heap.size ≤ b ∧ RdAt w' b v (decE (bl s)) ∧ OwnU w' w.heap.size v (if decE (bl s) = 0 then decB (bl s) else []) ∧ Gr w w') → ReadPost (bl s) w x w') := fun x w' h => h
  generalize (if decE (bl s) = 0 then decB (bl s) else []) = l at *
  generalize decE (bl s) = er at *
  obtain ⟨m, hm⟩ : ∃ m, l.length = m := ⟨_, rfl⟩
  rw [hm] at HO ⊢
  clear ho hg HD hm
  go_wp2_with fail
  go_ret
  exact HPO.out _ _ ⟨w1.heap.size, _, rfl, hzz, heap_alloc_new w1 _, HO.out.gr ((Gr.refl w1).alloc _), HG.out.trans ((Gr.refl w1).alloc _)⟩
def pubE (s : Str) : Int := if decE s ≠ 0 then decE s else if (decB s).length < 17 then 4 else if 17 < (decB s).length then 5 else heightErr (((decB s).headD 0).toNat : Int)
def pubH (s : Str) : Int := if pubE s = 0 then (((decB s).headD 0).toNat : Int) else 0
def pubR (s : Str) : Aut := if pubE s = 0 then vecOf 16 ((decB s).drop 1) else zAut
def zPub : List Value := pubC 0 zAut
theorem pub_bad {s : Str} {e : Int} (h : pubE s = e) (h0 : e ≠ 0) : pubC (pubH s) (pubR s) = zPub := by
  unfold pubH pubR zPub; rw [h, if_neg h0, if_neg h0]
theorem bC_vec {n : Nat} {l : List UInt8} (h : l.length = n) : l.map cU = bC (vecOf n l) := by unfold bC; rw [vecOf_toList h]; rfl
theorem results_cell_tmp {P : Program} {fn : Func} {p u1 : Tmp} {ty : TypeId} (h : fn.results = #[.cell p ty, .tmp u1]) (tmps : Array Value) (w : World) (g : Nat) (t : TypeId) (cs : Array Value) (fr : Nat × Nat) (d : TypeDesc)
    (hp : tmps.getD p undef = .pointer (some ⟨g, 0, none⟩)) (hg : w.heap[g]? = some (.cells cs t fr))
    (hu : P.underlying ty = some d) (hd : (match d with | .struct _ | .array _ _ => true | _ => false) = true) (hi : (P.info? ty).map (·.size) = some cs.size) :
    (results fn tmps).run P w = .ok (.tuple #[.agg cs, tmps.getD u1 undef]) w := by
  have hp' : tmps[p]?.getD undef = .pointer (some ⟨g, 0, none⟩) := by simpa using hp
  simp [results, h, hp', asAddr, run_loadVar_row w g t ty cs fr d hg hu hd hi]
/-- What ParsePublic leaves. -/
def PubPost (h : Int) (r : Aut) (e : Int) (w : World) (x : Ending) (w' : World) : Prop := x = .returned (.tuple #[.agg (pubC h r).toArray, .int .i64 e]) ∧ Gr w w'
set_option maxRecDepth 100000 in
set_option maxHeartbeats 4000000 in
theorem parsePubK (s : ByteArray) (w : World) (x0 : UInt8) (ys : List UInt8) (hy : ys.length = 16) (e2 : Int) (Q0 Q1 Q2 : Nat → World → Prop)
    (HRd : ∀ W, Gr w W → Calls Tryz.prog 120 #[.string s] W fun x W' => ∃ b, x = .returned (.pointer (some ⟨b, 0, none⟩)) ∧ W.heap.size ≤ b ∧ b < W'.heap.size ∧ Q0 b W' ∧ Gr W W')
    (H1 : ∀ b W, Q0 b W → Calls Tryz.prog 121 #[.pointer (some ⟨b, 0, none⟩), .int .i64 1] W fun x W' => x = .returned (.int .i64 (x0.toNat : Int)) ∧ Q1 b W' ∧ W.grownBy W' (some b))
    (H2 : ∀ b W, Q1 b W → Calls Tryz.prog 122 #[.pointer (some ⟨b, 0, none⟩), .int .i64 16] W fun x W' => ∃ g o c, x = .returned (.slice (some ⟨g, o, none⟩) 16 c) ∧ ByAt W' g o ys ∧ Q2 b W' ∧ W.grownBy W' (some b))
    (Hg : ∀ b W W', Q2 b W → Gr W W' → Q2 b W')
    (H3 : ∀ b W, Q2 b W → Calls Tryz.prog 123 #[.pointer (some ⟨b, 0, none⟩)] W fun x W' => x = .returned (.int .i64 e2) ∧ W.grownBy W' (some b)) :
    Calls Tryz.prog 87 #[.string s] w fun x W' => (e2 ≠ 0 → PubPost 0 zAut e2 w x W') ∧ (e2 = 0 → heightErr (x0.toNat : Int) ≠ 0 → PubPost 0 zAut (heightErr (x0.toNat : Int)) w x W') ∧ (e2 = 0 → heightErr (x0.toNat : Int) = 0 → PubPost (x0.toNat : Int) (vecOf 16 ys) 0 w x W') := by
  have g0 := (Gr.refl w).alloc (.cells (pubC 0 zAut).toArray 29)
  have HR := Lib.hid (HRd _ g0)
  have K1 := Lib.hid H1; have K2 := Lib.hid H2; have K3 := Lib.hid H3; have KG := Lib.hid Hg
  have B0 := Lib.hid (heap_alloc_new w (.cells (pubC 0 zAut).toArray 29))
  have G0 := Lib.hid g0
  have HY := Lib.hid hy
  clear HRd H1 H2 H3 Hg g0 hy
  go_enter Tryz.func87, Tryz.ntmps87
  go_wp2_with fail
  refine HR.out.mono ?_
  rintro e w1 ⟨b, rfl, hb, hbw, hq0, hg1⟩
  have HB1 := Lib.hid hbw
  have B1 := Lib.hid ((hg1.block (Array.getElem?_eq_some_iff.1 B0.out).1).trans B0.out)
  have G1 := Lib.hid (G0.out.trans hg1)
  have HQ0 := Lib.hid hq0
  have HBB : w.heap.size < b := by simp at hb; omega
  clear hq0 hg1 hb hbw HR
  go_wp2_with fail
  refine (K1.out _ _ HQ0.out).mono ?_
  rintro e w2 ⟨rfl, hq1, hg2⟩
  have B2 := Lib.hid (grown_block hg2 B1.out (by simp; omega))
  have G2 := Lib.hid (G1.out.grown hg2 (fun k hk => by cases hk; omega))
  have HQ1 := Lib.hid hq1
  have HB2 := Lib.hid (Nat.lt_of_lt_of_le HB1.out hg2.size)
  clear hq1 hg2 B1 G1 HQ0
  obtain ⟨x, hx⟩ : ∃ x : Int, (x0.toNat : Int) = x := ⟨_, rfl⟩
  rw [hx]
  have HX := Lib.hid hx
  clear hx
  go_wp2_with fail
  refine (K2.out _ _ HQ1.out).mono ?_
  rintro e w3 ⟨g, o, c, rfl, hby, hq2, hg3⟩
  have B3 := Lib.hid (grown_block hg3 B2.out (by simp; omega))
  have G3 := Lib.hid (G2.out.grown hg3 (fun k hk => by cases hk; omega))
  obtain ⟨r1, r2⟩ := hby.row HY.out
  rw [bC_vec HY.out] at r2
  have hgz := hby.1
  have HQ2 := Lib.hid hq2
  have HB3 := Lib.hid (Nat.lt_of_lt_of_le HB2.out hg3.size)
  have hz3 := (Array.getElem?_eq_some_iff.1 B3.out).1
  obtain ⟨R, hR⟩ : ∃ R : Aut, vecOf 16 ys = R := ⟨_, rfl⟩
  rw [hR] at r2
  have HRR := Lib.hid hR
  have HP4 := Lib.hid (heap_alloc_new w3 (.cells (pubC x R).toArray 29))
  have HK3 := Lib.hid (K3.out b (w3.alloc (.cells (pubC x R).toArray 29)) (KG.out _ _ _ hq2 ((Gr.refl w3).alloc _)))
  have har : ∀ w, (Instr.arrayAt 24 (.slice (some ⟨g, o, none⟩) 16 c)).run Tryz.prog w = .ok (.pointer (some ⟨g, o, none⟩)) w := fun w => run_arrayAt (w := w) 24 5 16 _ 16 c Tryz.underlying24 (Nat.le_refl _)
  clear hby hq2 hg3 B2 G2 HQ1 hR
  go_wp2_with fail
  refine HK3.out.mono ?_
  rintro e w5 ⟨rfl, hg5⟩
  have hbz : w.heap.size < b := HBB
  have P5 := grown_block hg5 HP4.out (by have := HB3.out; simp; omega)
  have B5 := grown_block hg5 (((Gr.refl w3).alloc (.cells (pubC x R).toArray 29)).block hz3 |>.trans B3.out) (by simp; omega)
  have u1 := hasRow_block P5 0 17 (by rw [pubC_length]; decide)
  have u2 := (rowAt_block P5 0 17 (by rw [pubC_length]; decide)).trans (rowOf_all _ _ (pubC_length _ _))
  have hz5 := (Array.getElem?_eq_some_iff.1 P5).1
  have t1 := hasRow_block B5 0 17 (by rw [pubC_length]; decide)
  have t2 := freeRow_block B5 0 17
  have t3 := (rowAt_block B5 0 17 (by rw [pubC_length]; decide)).trans (rowOf_all _ _ (pubC_length _ _))
  have hzb := (Array.getElem?_eq_some_iff.1 B5).1
  have G5 := Lib.hid ((G3.out.trans ((Gr.refl w3).alloc (.cells (pubC x R).toArray 29))).grown hg5 (fun k hk => by cases hk; omega))
  have BB5 := Lib.hid B5
  have PP5 := Lib.hid P5
  clear P5 B5 hg5 HK3 HP4 G3 B3 r1 r2 hgz har
  by_cases he : e2 = 0
  · subst he
    go_wp2_with fail
    refine (pubCheckC x R w5).mono ?_
    rintro e w6 ⟨rfl, hg6⟩
    have P6 : Hid (w6.heap[w3.heap.size]? = some (.cells (pubC x R).toArray 29 (0, 0))) := (hg6.block hz5).trans PP5.out
    have B6 := Lib.hid ((hg6.block hzb).trans BB5.out)
    have G6 := Lib.hid (G5.out.trans hg6)
    clear u1 u2 hz5 t1 t2 t3 hzb hg6 PP5 BB5
    have u1 := hasRow_block P6.out 0 17 (by rw [pubC_length]; decide)
    have u2 := (rowAt_block P6.out 0 17 (by rw [pubC_length]; decide)).trans (rowOf_all _ _ (pubC_length _ _))
    have hz5 := (Array.getElem?_eq_some_iff.1 P6.out).1
    have t1 := hasRow_block B6.out 0 17 (by rw [pubC_length]; decide)
    have t2 := freeRow_block B6.out 0 17
    have hzb := (Array.getElem?_eq_some_iff.1 B6.out).1
    by_cases hh : heightErr x = 0
    · rw [hh]
      go_wp2_with fail
      have hw := sets_whole (cs := pubC x R) B6.out (by simp only [pubC_length])
      have hgr : Gr w (w6.setCells w.heap.size 0 (pubC x R)) := Gr.of_grownBy (grown_sets (Nat.le_refl _) _ 0 w6 (grown_gr G6.out))
      refine bodyPost_ret (results_cell_tmp rfl _ _ w.heap.size _ _ _ _ rfl hw Tryz.underlying29 rfl (by rw [List.size_toArray, pubC_length]; kernel_rfl)) rfl ?_
      exact ⟨fun h => absurd (by rw [HX.out]; exact hh) h, fun _ => by rw [HX.out, HRR.out]; exact ⟨rfl, hgr⟩⟩
    · have hh1 : (heightErr x != 0) = true := bne_iff_ne.2 hh
      obtain ⟨he, hhe⟩ : ∃ he, heightErr x = he := ⟨_, rfl⟩
      rw [hhe] at hh1 ⊢
      have HHE := Lib.hid hhe
      have HH := Lib.hid hh
      clear hh hhe
      go_wp2_with fail
      have hw := sets_whole (cs := pubC 0 zAut) B6.out (by simp only [pubC_length])
      have hgr : Gr w (w6.setCells w.heap.size 0 (pubC 0 zAut)) := Gr.of_grownBy (grown_sets (Nat.le_refl _) _ 0 w6 (grown_gr G6.out))
      refine bodyPost_ret (results_cell_tmp rfl _ _ w.heap.size _ _ _ _ rfl hw Tryz.underlying29 rfl (by rw [List.size_toArray, pubC_length]; kernel_rfl)) rfl ?_
      exact ⟨fun _ => by rw [HX.out, HHE.out]; exact ⟨rfl, hgr⟩, fun h => absurd (by rw [← HX.out]; exact h) HH.out⟩
  · have he1 : (e2 != 0) = true := bne_iff_ne.2 he
    go_wp2_with fail
    have hw := sets_whole (cs := pubC 0 zAut) BB5.out (by simp only [pubC_length])
    have hgr : Gr w (w5.setCells w.heap.size 0 (pubC 0 zAut)) := Gr.of_grownBy (grown_sets (Nat.le_refl _) _ 0 w5 (grown_gr G5.out))
    refine bodyPost_ret (results_cell_tmp rfl _ _ w.heap.size _ _ _ _ rfl hw Tryz.underlying29 rfl (by rw [List.size_toArray, pubC_length]; kernel_rfl)) rfl ?_
    exact ⟨fun _ => ⟨rfl, hgr⟩, fun h => absurd h he, fun h => absurd h he⟩
end Go.Proofs.YtcjacgjeiljfgaaGreatDoor

namespace Go.Proofs.YtcjacgjeiljfgaaGreatDoor
open Go.RowKit

theorem ByAt.grown {w w' : World} {g o b : Nat} {l : List UInt8} (h : ByAt w g o l) (hg : w.grownBy w' (some b)) (hb : g ≠ b) : ByAt w' g o l :=
  ⟨Nat.lt_of_lt_of_le h.1 hg.size, fun j x hj => (World.cell?_of_block (hg.block g h.1 (fun e => hb (by simpa using e)))).trans (h.2 j x hj)⟩
theorem ByAt.drop {w : World} {g o : Nat} {l : List UInt8} (h : ByAt w g o l) (n : Nat) : ByAt w g (o + n) (l.drop n) :=
  ⟨h.1, fun j x hj => by rw [List.getElem?_drop] at hj; rw [Nat.add_assoc]; exact h.2 _ _ hj⟩
theorem ByAt.take {w : World} {g o : Nat} {l : List UInt8} (h : ByAt w g o l) (n : Nat) : ByAt w g o (l.take n) :=
  ⟨h.1, fun j x hj => h.2 _ _ (by
    rw [List.getElem?_take] at hj
    split at hj
    · exact hj
    · cases hj)⟩
/-- What a reader holds. -/
def Rd0 (l : List UInt8) (e : Int) (b : Nat) (W : World) : Prop := ∃ a c, RdAt W b (.slice a l.length c) e ∧ l.length ≤ c ∧ (l ≠ [] → ∃ g o, a = some ⟨g, o, none⟩ ∧ ByAt W g o l ∧ g ≠ b)
def RdE (e : Int) (b : Nat) (W : World) : Prop := ∃ a m c, RdAt W b (.slice a m c) e
theorem rd_start {s : Str} {w w' : World} {b : Nat} {v : Value} {l : List UInt8} (hr : RdAt w' b v (decE s)) (ho : OwnU w' w.heap.size v l) : Rd0 l (decE s) b w' := by
  have h0 := ho
  obtain ⟨hm, h2⟩ := h0
  rcases h2 with ⟨h1, h0⟩ | ⟨g, cap, cur, rfl, hg, hh, hc, hm, hs, ht⟩
  · subst h1
    have hl : l = [] := List.length_eq_zero_iff.1 h0
    exact ⟨none, 0, by rw [h0]; exact hr, by omega, fun h => absurd hl h⟩
  · refine ⟨_, cap, hr, hc, fun _ => ⟨g, 0, rfl, ⟨(Array.getElem?_eq_some_iff.1 hh).1, fun j x hj => ?_⟩, fun e => ?_⟩⟩
    · have := World.ownsRow.cells ho (g := g) rfl j (cU x) (by rw [List.getElem?_map, hj]; rfl)
      rwa [Addr.add_lit] at this
    · have := ho.ne hr (by decide)
      exact this (by rw [← e]; rfl)
theorem tkE_ne (e : Int) : tkE e ≠ 0 := by unfold tkE; split; decide; assumption
theorem tkE_of {e : Int} (h : e ≠ 0) : tkE e = e := by unfold tkE; rw [if_neg h]
theorem endE_of {e : Int} (h : e ≠ 0) (n : Nat) : endE e n = e := by unfold endE; rw [if_neg h]
theorem RdE.gr {e : Int} {b : Nat} {W W' : World} (h : RdE e b W) (hg : Gr W W') : RdE e b W' := by
  obtain ⟨a, m, c, h⟩ := h; exact ⟨a, m, c, h.gr hg⟩
/-- What fails. -/
theorem failRd (e : Int) (he : e ≠ 0) (b : Nat) (W : World) (h : RdE e b W) : Calls Tryz.prog 122 #[.pointer (some ⟨b, 0, none⟩), .int .i64 16] W fun x W' => ∃ g o c, x = .returned (.slice (some ⟨g, o, none⟩) 16 c) ∧ ByAt W' g o (List.replicate 16 0) ∧ RdE e b W' ∧ W.grownBy W' (some b) := by
  obtain ⟨a, m, c, h⟩ := h
  refine (takeBad b a m c 16 e W h (by decide) (.inl he)).mono ?_
  rintro x W' ⟨g, h1, h2, h3, h4⟩
  rw [tkE_of he] at h3
  exact ⟨g, 0, 16, h1, h2, ⟨a, m, c, h3⟩, h4⟩
theorem endRd (e : Int) (he : e ≠ 0) (b : Nat) (W : World) (h : RdE e b W) : Calls Tryz.prog 123 #[.pointer (some ⟨b, 0, none⟩)] W fun x W' => x = .returned (.int .i64 e) ∧ W.grownBy W' (some b) := by
  obtain ⟨a, m, c, h⟩ := h
  have := endC b a m c e W h
  rwa [endE_of he] at this
theorem pub_fail {s : Str} {e : Int} {w w' : World} {x : Ending} (h : pubE s = e) (h0 : e ≠ 0) (hp : PubPost 0 zAut e w x w') : PubPost (pubH s) (pubR s) (pubE s) w x w' := by
  unfold PubPost at *
  rw [pub_bad h h0, h]; exact hp
theorem decB_len (s : Str) : (decB s).length ≤ s.length := by
  unfold decB decR
  rw [List.length_map]
  have h := grp_len (k := 8) (by decide) (bits6 (s.take (datN s)))
  rw [bits6_len, List.length_take] at h
  omega
theorem Rd0.gr {l : List UInt8} {e : Int} {b : Nat} {W W' : World} (h : Rd0 l e b W) (hg : Gr W W') : Rd0 l e b W' := by
  obtain ⟨a, c, h1, h2, h3⟩ := h
  exact ⟨a, c, h1.gr hg, h2, fun hl => by obtain ⟨g, o, k1, k2, k3⟩ := h3 hl; exact ⟨g, o, k1, k2.gr hg, k3⟩⟩
theorem takeRd (n : Nat) (hn : 1 ≤ n) (l : List UInt8) (hl : n ≤ l.length) (hll : l.length ≤ 1000000) (b : Nat) (W : World) (h : Rd0 l 0 b W) : Calls Tryz.prog 122 #[.pointer (some ⟨b, 0, none⟩), .int .i64 n] W fun x W' => ∃ g o c, x = .returned (.slice (some ⟨g, o, none⟩) n c) ∧ ByAt W' g o (l.take n) ∧ Rd0 (l.drop n) 0 b W' ∧ W.grownBy W' (some b) := by
  obtain ⟨a, c, h1, h2, h3⟩ := h
  obtain ⟨g, o, rfl, k2, k3⟩ := h3 (fun e => by rw [e] at hl; simp at hl; omega)
  refine (takeOk b g o c n l W h1 k2 h2 hl hll).mono ?_
  rintro x W' ⟨rfl, ⟨a', q1, q2⟩, q3⟩
  refine ⟨g, o, c, rfl, (k2.grown q3 k3).take n, ⟨a', c - n, by rw [List.length_drop]; exact q1, by rw [List.length_drop]; omega, fun hne => ?_⟩, q3⟩
  have hlt : n < l.length := by
    rcases Nat.lt_or_ge n l.length with h | h
    · exact h
    · exact absurd (List.drop_eq_nil_iff.2 h) hne
  exact ⟨g, o + n, q2 (by omega), (k2.grown q3 k3).drop n, k3⟩
theorem parsePubC (s : ByteArray) (w : World) (hA : Alph w) (hs : s.size ≤ 1000000) : Calls Tryz.prog 87 #[.string s] w (PubPost (pubH (bl s)) (pubR (bl s)) (pubE (bl s)) w) := by
  have HRd : ∀ W, Gr w W → Calls Tryz.prog 120 #[.string s] W fun x W' => ∃ b, x = .returned (.pointer (some ⟨b, 0, none⟩)) ∧ W.heap.size ≤ b ∧ b < W'.heap.size ∧ Rd0 (if decE (bl s) = 0 then decB (bl s) else []) (decE (bl s)) b W' ∧ Gr W W' := fun W hG => (readC s W (hA.gr hG) hs).mono (fun x W' ⟨b, v, h1, h2, h3, h4, h5⟩ => ⟨b, h1, h2, h3.facts.2.2.2, rd_start h3 h4, h5⟩)
  have hpe : pubE (bl s) = if decE (bl s) ≠ 0 then decE (bl s) else if (decB (bl s)).length < 17 then 4 else if 17 < (decB (bl s)).length then 5 else heightErr (((decB (bl s)).headD 0).toNat : Int) := rfl
  have hph : pubE (bl s) = 0 → pubH (bl s) = (((decB (bl s)).headD 0).toNat : Int) ∧ pubR (bl s) = vecOf 16 ((decB (bl s)).drop 1) := fun h => ⟨by unfold pubH; rw [if_pos h], by unfold pubR; rw [if_pos h]⟩
  have hll : (decB (bl s)).length ≤ 1000000 := by have := decB_len (bl s); rw [bl_length] at this; omega
  generalize decE (bl s) = e at *
  generalize decB (bl s) = l at *
  by_cases he : e ≠ 0 ∨ l = []
  · have hp : pubE (bl s) = tkE e := by
      rw [hpe]
      by_cases h0 : e ≠ 0
      · rw [if_pos h0, tkE_of h0]
      · have h00 : e = 0 := by omega
        rw [if_neg h0, h00]
        rcases he with h | h
        · exact absurd h h0
        · rw [h]; rfl
    have hl : ∀ n : Nat, 1 ≤ n → e ≠ 0 ∨ (if e = 0 then l else []).length < n := fun n hn => by
      rcases he with h | h
      · exact .inl h
      · right; rw [h]; split <;> (simp; omega)
    refine (parsePubK s w 0 (List.replicate 16 0) rfl (tkE e) (Rd0 (if e = 0 then l else []) e) (RdE (tkE e)) (RdE (tkE e)) HRd ?_ (failRd _ (tkE_ne e)) (fun b W W' h hg => h.gr hg) (endRd _ (tkE_ne e))).mono ?_
    · intro b W ⟨a, c, h1, h2, h3⟩
      refine number1C b 0 (fun W' => RdE (tkE e) b W' ∧ W.grownBy W' (some b)) W ((takeBad b a _ c 1 e W h1 (by decide) (hl 1 (Nat.le_refl _))).mono ?_)
      rintro x W' ⟨g, k1, k2, k3, k4⟩
      exact ⟨g, 0, 1, k1, k2.2 0 0 rfl, ⟨a, _, c, k3⟩, k4⟩
    · rintro x W' ⟨k1, -, -⟩
      exact pub_fail hp (tkE_ne e) (k1 (tkE_ne e))
  · have he0 : e = 0 := by omega
    have hl0 : l ≠ [] := fun h => he (.inr h)
    subst he0
    rw [if_neg (by simp)] at hpe
    simp only [if_true] at HRd
    obtain ⟨x0, t, rfl⟩ : ∃ x0 t, l = x0 :: t := by cases l with | nil => exact absurd rfl hl0 | cons x t => exact ⟨x, t, rfl⟩
    have H1 : ∀ b W, Rd0 (x0 :: t) 0 b W → Calls Tryz.prog 121 #[.pointer (some ⟨b, 0, none⟩), .int .i64 1] W fun x W' => x = .returned (.int .i64 (x0.toNat : Int)) ∧ Rd0 t 0 b W' ∧ W.grownBy W' (some b) := fun b W h => by
      refine number1C b x0 (fun W' => Rd0 t 0 b W' ∧ W.grownBy W' (some b)) W ((takeRd 1 (Nat.le_refl _) (x0 :: t) (by simp) hll b W h).mono ?_)
      rintro x W' ⟨g, o, c, k1, k2, k3, k4⟩
      exact ⟨g, o, c, k1, k2.2 0 x0 rfl, k3, k4⟩
    simp only [List.length_cons] at hpe hll
    by_cases ht : t.length < 16
    · have hp : pubE (bl s) = 4 := by rw [hpe, if_pos (by omega)]
      refine (parsePubK s w x0 (List.replicate 16 0) rfl 4 (Rd0 (x0 :: t) 0) (Rd0 t 0) (RdE 4) HRd H1 ?_ (fun b W W' h hg => h.gr hg) (endRd _ (by decide))).mono ?_
      · intro b W ⟨a, c, h1, h2, h3⟩
        refine (takeBad b a _ c 16 0 W h1 (by decide) (.inr ht)).mono ?_
        rintro x W' ⟨g, k1, k2, k3, k4⟩
        exact ⟨g, 0, 16, k1, k2, ⟨a, _, c, k3⟩, k4⟩
      · rintro x W' ⟨k1, -, -⟩
        exact pub_fail hp (by decide) (k1 (by decide))
    · rw [if_neg (by omega)] at hpe
      refine (parsePubK s w x0 (t.take 16) (by rw [List.length_take]; omega) (endE 0 (t.drop 16).length) (Rd0 (x0 :: t) 0) (Rd0 t 0) (Rd0 (t.drop 16) 0) HRd H1 (fun b W h => takeRd 16 (by decide) t (by omega) (by omega) b W h) (fun b W W' h hg => h.gr hg) (fun b W ⟨a, c, h1, _, _⟩ => endC b a _ c 0 W h1)).mono ?_
      rintro x W' ⟨k1, k2, k3⟩
      rw [List.length_drop] at k1 k2 k3
      by_cases h16 : 16 < t.length
      · have e1 : endE 0 (t.length - 16) = 5 := by unfold endE; rw [if_pos rfl, if_pos (by omega)]
        rw [e1] at k1
        exact pub_fail (by rw [hpe, if_pos (by omega)]) (by decide) (k1 (by decide))
      · have e1 : endE 0 (t.length - 16) = 0 := by unfold endE; rw [if_pos rfl, if_neg (by omega)]
        rw [e1] at k2 k3
        rw [if_neg (by omega)] at hpe
        have hpe2 : pubE (bl s) = heightErr (x0.toNat : Int) := hpe
        by_cases hh : heightErr (x0.toNat : Int) = 0
        · obtain ⟨h1, h2⟩ := hph (hpe2.trans hh)
          have := k3 rfl hh
          rw [List.take_of_length_le (by omega)] at this
          rw [h1, h2, hpe2, hh]
          exact this
        · exact pub_fail hpe2 hh (k2 rfl hh)
end Go.Proofs.YtcjacgjeiljfgaaGreatDoor

namespace Go.Proofs.YtcjacgjeiljfgaaGreatDoor
open Go.RowKit

attribute [local go_sem] oneB_pub
theorem Alph.grown {w w' : World} {b : Nat} (h : Alph w) (hg : w.grownBy w' (some b)) (hb : 0 < b) : Alph w' := fun i hi => grown_cell hg (h i hi) (by simp; omega)
def PS.pubP (n : Nat) (p : PS) : PS × Int × Aut := if (p.next n).2.2 = true then ((p.next n).1.fail (p.next n).1.start (pubE (p.next n).2.1), pubH (p.next n).2.1, pubR (p.next n).2.1) else ((p.next n).1, 0, zAut)
theorem PSok.pub {s : Str} {p : PS} (h : PSok s p) (n : Nat) : PSok s (p.pubP n).1 := by
  unfold PS.pubP; split
  · exact (h.next n).fail _ _
  · exact h.next n
set_option maxRecDepth 100000 in
set_option maxHeartbeats 4000000 in
theorem publicC (b : Nat) (s : ByteArray) (p : PS) (w : World) (h : PSAt w b s p) (hok : PSok (bl s) p) (hs : s.size ≤ 1000000) (hE : Env w) (hA : Alph w) (hb : 1 < b) :
    Calls Tryz.prog 56 #[.pointer (some ⟨b, 0, none⟩)] w (PSPost b s (p.pubP s.size).1 w (.agg (pubC (p.pubP s.size).2.1 (p.pubP s.size).2.2).toArray)) := by
  have hz := h.facts.2.2.2.2.2.2
  have g0 := (Gr.refl w).alloc (.cells (pubC 0 zAut).toArray 29)
  have HN := Lib.hid (nextC b s p _ (h.gr g0) hok hs (hE.gr g0) hb)
  have HB := Lib.hid (heap_alloc_new w (.cells (pubC 0 zAut).toArray 29))
  have G0 := Lib.hid (grown_gr (row := some b) g0)
  have HAA := Lib.hid (hA.gr g0)
  have HLEN := Lib.hid (show (p.next s.size).2.2 = true → _ from next_len hok s.size)
  have HF : Hid (p.pubP s.size = if (p.next s.size).2.2 = true then ((p.next s.size).1.fail (p.next s.size).1.start (pubE (p.next s.size).2.1), pubH (p.next s.size).2.1, pubR (p.next s.size).2.1) else ((p.next s.size).1, 0, zAut)) := rfl
  clear h hok hE g0 hA
  generalize p.next s.size = q at *
  obtain ⟨p1, x, ok⟩ := q
  simp only at HN HF HLEN
  cases ok with
  | false =>
    go_enter Tryz.func56, Tryz.ntmps56
    go_wp2_with fail
    refine HN.out.mono ?_
    rintro e w1 ⟨rfl, h1, hg1⟩
    have b1 := grown_block hg1 HB.out (by simp; omega)
    have u1 := hasRow_block b1 0 17 (by rw [pubC_length]; decide)
    have f1 := freeRow_block b1 0 17
    have B2 := Lib.hid (sets_whole (cs := pubC 0 zAut) b1 rfl)
    have H1 := Lib.hid (h1.other (sets_other (b := w.heap.size) (i := b) (by omega) (pubC 0 zAut) 0 w1))
    have HG1 := Lib.hid (grown_sets (b := w.heap.size) (Nat.le_refl _) (pubC 0 zAut) 0 w1 (grown_trans G0.out hg1))
    clear h1 hg1 b1 HB G0
    go_wp2_with fail
    refine bodyPost_ret (results_cell_row rfl _ _ w.heap.size _ _ _ _ rfl B2.out Tryz.underlying29 rfl (by rw [List.size_toArray, pubC_length]; kernel_rfl)) rfl ?_
    exact ⟨by rw [HF.out]; rfl, by rw [HF.out]; exact H1.out, HG1.out⟩
  | true =>
    have hxl : (bs x).size ≤ 1000000 := by have := HLEN.out rfl; have e1 := bl_length (bs x); rw [bl_bs] at e1; rw [bl_length] at this; omega
    have HMP : Hid (∀ W, Alph W → Calls Tryz.prog 87 #[.string (bs x)] W (PubPost (pubH x) (pubR x) (pubE x) W)) := fun W hW => by
      have h := parsePubC (bs x) W hW hxl
      rwa [bl_bs] at h
    have HF2 : Hid (p.pubP s.size = (p1.fail p1.start (pubE x), pubH x, pubR x)) := by show _ = _; rw [HF.out, if_pos rfl]
    clear HF hxl HLEN
    generalize pubE x = er at *
    generalize pubH x = ph at *
    generalize pubR x = pr at *
    go_enter Tryz.func56, Tryz.ntmps56
    go_wp2_with fail
    refine HN.out.mono ?_
    rintro e w1 ⟨rfl, h1, hg1⟩
    have b1 := grown_block hg1 HB.out (by simp; omega)
    have H1 := Lib.hid h1
    have B1 := Lib.hid b1
    have HG1 := Lib.hid (grown_trans G0.out hg1)
    have HA1 := Lib.hid (HAA.out.grown hg1 (by omega))
    clear h1 hg1 b1 HB G0 HN
    go_wp2_with fail
    refine (HMP.out _ HA1.out).mono ?_
    rintro e w2 ⟨rfl, hg2⟩
    have g3 := hg2.trans ((Gr.refl w2).alloc (.cells (pubC ph pr).toArray 29))
    have h3 := H1.out.gr g3
    have b3 := (g3.block (Array.getElem?_eq_some_iff.1 B1.out).1).trans B1.out
    have c3 := heap_alloc_new w2 (.cells (pubC ph pr).toArray 29)
    have HG3 := Lib.hid (grown_trans HG1.out (grown_gr (row := some b) g3))
    have hz2 : w2.heap.size ≠ b := fun e => by have := (Array.getElem?_eq_some_iff.1 H1.out).1; have := hg2.size; omega
    have hz3 : w2.heap.size ≠ w.heap.size := fun e => by have := (Array.getElem?_eq_some_iff.1 B1.out).1; have := hg2.size; omega
    have HFC := Lib.hid (failC b s p1 p1.start er _ h3)
    have B3 := Lib.hid b3; have C3 := Lib.hid c3
    obtain ⟨d0, d1, d2, d3, d4, _, z3⟩ := h3.facts
    clear hg2 g3 h3 b3 c3 H1 B1 HG1
    go_wp2_with fail
    refine HFC.out.mono ?_
    rintro e w4 ⟨rfl, h4, hg4⟩
    have b4 := grown_block hg4 B3.out (by simp; omega)
    have c4 := grown_block hg4 C3.out (by simp; omega)
    have u1 := hasRow_block b4 0 17 (by rw [pubC_length]; decide)
    have f1 := freeRow_block b4 0 17
    have k1 := hasRow_block c4 0 17 (by rw [pubC_length]; decide)
    have k2 := (rowAt_block c4 0 17 (by rw [pubC_length]; decide)).trans (rowOf_all _ _ (pubC_length ph pr))
    have B5 := Lib.hid (sets_whole (cs := pubC ph pr) b4 (by rw [pubC_length, pubC_length]))
    have H5 := Lib.hid (h4.other (sets_other (b := w.heap.size) (i := b) (by omega) (pubC ph pr) 0 w4))
    have HG5 := Lib.hid (grown_sets (b := w.heap.size) (Nat.le_refl _) (pubC ph pr) 0 w4 (grown_trans HG3.out hg4))
    clear h4 hg4 b4 c4 d0 d1 d2 d3 d4 z3 HFC
    go_wp2_with fail
    refine bodyPost_ret (results_cell_row rfl _ _ w.heap.size _ _ _ _ rfl B5.out Tryz.underlying29 rfl (by rw [List.size_toArray, pubC_length]; kernel_rfl)) rfl ?_
    exact ⟨by rw [HF2.out], by rw [HF2.out]; exact H5.out, HG5.out⟩
theorem put_pub {w : World} {b : Nat} {c : Cm} {v : Value} {t : TypeId} (h : w.heap[b]? = some (.cells (cmC c v).toArray t (0, 0))) (ht : Int) (r : Aut) : (w.setCells b 39 (pubC ht r)).heap[b]? = some (.cells (cmC { c with height := ht, root := r } v).toArray t (0, 0)) := by
  rw [cm_pre] at h
  have e := sets_block b t [] (pubC ht r) ([.int .i64 c.kind] ++ (bC c.target ++ [Value.string c.group, .int .i64 c.version, .bool c.moderated, v, .string c.text, .int .i64 c.number])) (pubC c.height c.root) w (by rw [pubC_length, pubC_length]) h
  rw [show ([Value.int .i64 c.kind] ++ (bC c.target ++ [Value.string c.group, .int .i64 c.version, .bool c.moderated, v, .string c.text, .int .i64 c.number])).length = 39 by simp [bC_length]] at e
  rw [cm_pre { c with height := ht, root := r } v]; exact e
theorem FSt.sets {w W : World} {b : Nat} {s : ByteArray} {p : PS} {c c' : Cm} {v v' : Value} (h : FSt w W b s p c v) (hb : b < w.heap.size) (o : Nat) (l : List Value) (hp : (W.setCells (w.heap.size + 1) o l).heap[w.heap.size + 1]? = some (.cells (cmC c' v').toArray 38 (0, 0))) : FSt w (W.setCells (w.heap.size + 1) o l) b s p c' v' :=
  ⟨h.ps.other (sets_other (by omega) l o W), grown_sets (by omega) l o W h.gr, (sets_other (by omega) l o W).trans h.b0, hp⟩
def read5 (n : Nat) (p : PS) : PS × Cm :=
  let q1 := p.numP n 1 1000
  let q2 := q1.1.pubP n
  (q2.1, { cm0 5 with number := q1.2, height := q2.2.1, root := q2.2.2 })
set_option maxRecDepth 100000 in
set_option maxHeartbeats 4000000 in
theorem form5C (b : Nat) (s : ByteArray) (p : PS) (w : World) (h : PSAt w b s p) (hok : PSok (bl s) p) (hs : s.size ≤ 1000000) (hE : Env w) (hA : Alph w) (hb : 1 < b) :
    Calls Tryz.prog 55 #[.pointer (some ⟨b, 0, none⟩)] w (RdPost b s (read5 s.size p).1 w (read5 s.size p).2) := by
  have hz := h.facts.2.2.2.2.2.2
  have S0 := Lib.hid (FSt.start h 5)
  have HG := Lib.hid (numberC b s p 1 1000 _ S0.out.ps hok hs (hE.grown S0.out.gr hb) hb)
  have HE := Lib.hid hE; have HOK := Lib.hid (hok.num s.size 1 1000); have HA := Lib.hid hA
  have HR : Hid (read5 s.size p = (((p.numP s.size 1 1000).1.pubP s.size).1, { cm0 5 with number := (p.numP s.size 1 1000).2, height := ((p.numP s.size 1 1000).1.pubP s.size).2.1, root := ((p.numP s.size 1 1000).1.pubP s.size).2.2 })) := rfl
  clear h hok hE hA
  generalize p.numP s.size 1 1000 = q at *
  obtain ⟨p1, nv⟩ := q
  simp only at HG HR HOK
  go_enter Tryz.func55, Tryz.ntmps55
  go_wp2_with fail
  refine HG.out.mono ?_
  rintro e w1 ⟨rfl, h1, hg1⟩
  have S1 := Lib.hid (S0.out.call hz h1 hg1)
  obtain ⟨c0, c33, c34, c35, c36, c37, c38, c39, r1, q1, r39, q39, r40, q40, r0, q0, z1⟩ := cm_facts S1.out.b1
  have f1 := free_block S1.out.b1 38
  clear h1 hg1 S0 HG c0 c33 c34 c35 c36 c37 c39 r1 q1 r39 q39 r40 q40 r0 q0
  go_wp2_with fail
  have S2 := Lib.hid (S1.out.set hz 38 (.int .i64 nv) (put_number S1.out.b1 nv))
  clear S1 c38 f1 z1
  generalize w1.setCell ⟨w.heap.size + 1, 38, none⟩ (.int .i64 nv) = W2 at *
  have HN := Lib.hid (publicC b s p1 W2 S2.out.ps HOK.out hs (HE.out.grown S2.out.gr hb) (HA.out.grown S2.out.gr (by omega)) hb)
  generalize p1.pubP s.size = q at *
  obtain ⟨p2, ph, pr⟩ := q
  simp only at HN HR
  refine HN.out.mono ?_
  rintro e w3 ⟨rfl, h3, hg3⟩
  have S3 := Lib.hid (S2.out.call hz h3 hg3)
  obtain ⟨c0, c33, c34, c35, c36, c37, c38, c39, r1, q1, r39, q39, r40, q40, r0, q0, z1⟩ := cm_facts S3.out.b1
  have f1 := freeRow_block S3.out.b1 39 17
  have S4 := S3.out.sets hz 39 (pubC ph pr) (put_pub S3.out.b1 ph pr)
  obtain ⟨-, -, -, -, -, -, -, -, -, -, -, -, -, -, r0', q0', z1'⟩ := cm_facts S4.b1
  have f0 := freeRow_block S4.b0 0 56
  have u0 := hasRow_block S4.b0 0 56 (by rw [cmC_length]; decide)
  have H4 := Lib.hid S4
  clear h3 hg3 S2 S4 HN HOK c0 c33 c34 c35 c36 c37 c38 c39 r1 q1 q39 r40 q40 r0 q0
  go_wp2_with fail
  have hw := sets_whole (cs := cmC { cm0 5 with number := nv, height := ph, root := pr } nilV) H4.out.b0 (by rw [cmC_length, cmC_length])
  have h5 := H4.out.ps.other (sets_other (b := w.heap.size) (i := b) (by omega) (cmC { cm0 5 with number := nv, height := ph, root := pr } nilV) 0 _)
  have hg5 := grown_sets (b := w.heap.size) (Nat.le_refl _) (cmC { cm0 5 with number := nv, height := ph, root := pr } nilV) 0 _ H4.out.gr
  refine bodyPost_ret (v := .agg (cmC { cm0 5 with number := nv, height := ph, root := pr } nilV).toArray) (results_cell_row rfl _ _ w.heap.size _ _ _ _ rfl hw Tryz.underlying38 rfl (by rw [List.size_toArray, cmC_length]; kernel_rfl)) rfl ?_
  rw [HR.out]
  exact ⟨none, 0, 0, rfl, nil_auts _, (fun x hx => by cases hx), h5, hg5⟩
end Go.Proofs.YtcjacgjeiljfgaaGreatDoor

namespace Go.Proofs.YtcjacgjeiljfgaaGreatDoor
open Go.RowKit

set_option maxRecDepth 100000 in
set_option maxHeartbeats 2000000 in
theorem parseLong (s : ByteArray) (w : World) (hs : 1000 < s.size) : Calls Tryz.prog 7 #[.string s] w (PrPost (cm0 0, 0, 5) w) := by
  have g0 := (Gr.refl w).alloc (.cells (cmC (cm0 0) nilV).toArray 38)
  have b0 := heap_alloc_new w (.cells (cmC (cm0 0) nilV).toArray 38)
  have hw := Lib.hid b0
  have G7 := Lib.hid g0
  have u0 := hasRow_block b0 0 56 (by rw [cmC_length]; decide)
  have f0 := freeRow_block b0 0 56
  have hd : decide (1000 < (s.size : Int)) = true := by simp; omega
  clear b0 g0
  go_enter Tryz.func7, Tryz.ntmps7
  go_wp2_with fail
  refine bodyPost_ret (results_cell_tmp2 (p := 2) (u1 := 3) (u2 := 4) rfl _ _ w.heap.size _ _ _ _ rfl hw.out Tryz.underlying38 rfl (by rw [List.size_toArray, cmC_length]; kernel_rfl)) rfl ?_
  exact ⟨nilV, rfl, nil_auts _, G7.out⟩
set_option maxRecDepth 100000 in
set_option maxHeartbeats 2000000 in
theorem parseBad (s : ByteArray) (w : World) (w0 : Str) (ws : List Str) (hsp : splitL 32 (bl s) = w0 :: ws) (hk : ∀ k, keyK k ≠ bs w0) (hs : s.size ≤ 1000) (hE : Env w) :
    Calls Tryz.prog 7 #[.string s] w (PrPost (cm0 0, 0, 11) w) := by
  have hcut : (Lib.cut (bl s) [32]).1 = w0 := by rw [head_cut, hsp]; rfl
  obtain ⟨mx, hm⟩ := hE
  have g0 := (Gr.refl w).alloc (.cells (cmC (cm0 0) nilV).toArray 38)
  have hm0 := (g0.cell (p := ⟨1, 0, none⟩) (World.block_lt_of_cell? w _ hm)).trans hm
  have HCU := Lib.hid (Tryz.strings_Cut s ⟨#[32]⟩ mx _ (by omega) hm0)
  have e1 : s.data.toList = bl s := rfl
  have e2 : (⟨#[32]⟩ : ByteArray).data.toList = [32] := rfl
  rw [e1, e2, hcut] at HCU
  have B0 := Lib.hid (heap_alloc_new w (.cells (cmC (cm0 0) nilV).toArray 38))
  have G0 := Lib.hid g0
  have HK := Lib.hid hk
  have hd : decide (1000 < (s.size : Int)) = false := by simp; omega
  generalize (Lib.cut (bl s) [32]).2.1 = y at *
  generalize (Lib.cut (bl s) [32]).2.2 = z at *
  clear hcut hm hm0 g0 e1 e2 hsp hk
  go_enter Tryz.func7, Tryz.ntmps7
  go_wp2_with fail
  refine HCU.out.mono ?_
  rintro e w1 ⟨rfl, n1, rfl⟩
  have hw0 : (⟨w0.toArray⟩ : ByteArray) = bs w0 := rfl
  rw [hw0]
  go_wp2_with fail
  refine (formsR _).mono ?_
  rintro e W2 ⟨L, rm, hL, hall, rfl, hmap, hg2⟩
  have hzf : ∀ W, (zeroValue 65).run Tryz.prog W = .ok .nilFunc W := fun W => by kernel_rfl
  have hl := run_miss (P := Tryz.prog) Tryz.underlying67 Tryz.underlying9 hmap (bs w0) .nilFunc (hzf W2) (fun e he => by
    obtain ⟨k, _, rfl⟩ := List.mem_map.1 he
    exact HK.out k)
  have g2 := ((Gr.refl (w.alloc (.cells (cmC (cm0 0) nilV).toArray 38))).drewN n1).trans hg2
  have b2 := (g2.block (b := w.heap.size) (by simp)).trans B0.out
  have G2 := Lib.hid (G0.out.trans g2)
  have u0 := hasRow_block b2 0 56 (by rw [cmC_length]; decide)
  have f0 := freeRow_block b2 0 56
  have hw := Lib.hid (sets_whole (w := W2) (b := w.heap.size) (cs := cmC (cm0 0) nilV) b2 rfl)
  have G7 : Hid (Gr w (W2.setCells w.heap.size 0 (cmC (cm0 0) nilV))) := Gr.of_grownBy (grown_sets (Nat.le_refl _) _ 0 W2 (grown_gr G2.out))
  have hz2 := (Array.getElem?_eq_some_iff.1 b2).1
  clear hmap hg2 g2 b2 B0 HCU hzf hL hall HK
  go_wp2_with fail
  refine bodyPost_ret (results_cell_tmp2 (p := 2) (u1 := 3) (u2 := 4) rfl _ _ w.heap.size _ _ _ _ rfl hw.out Tryz.underlying38 rfl (by rw [List.size_toArray, cmC_length]; kernel_rfl)) rfl ?_
  exact ⟨nilV, rfl, nil_auts _, G7.out⟩
/-- What the reader of a kind leaves. -/
def readK (k : Fin 5) (n : Nat) (s : Str) (p : PS) : PS × Cm := match k with
  | 0 => read1 n p
  | 1 => read2 n p
  | 2 => read3 n s p
  | 3 => read4 n p
  | 4 => read5 n p
theorem readKC (k : Fin 5) (b : Nat) (s : ByteArray) (p : PS) (w : World) (h : PSAt w b s p) (hok : PSok (bl s) p) (hs : s.size ≤ 1000000) (hE : Env w) (hA : Alph w) (hb : 1 < b) :
    Calls Tryz.prog (fnK k) #[.pointer (some ⟨b, 0, none⟩)] w (RdPost b s (readK k s.size (bl s) p).1 w (readK k s.size (bl s) p).2) := by
  have : k = 0 ∨ k = 1 ∨ k = 2 ∨ k = 3 ∨ k = 4 := by omega
  rcases this with rfl | rfl | rfl | rfl | rfl
  · exact form1C b s p w h hok hs hE hb
  · exact form2C b s p w h hok hs hE hb
  · exact form3C b s p w h hok hs hE hb
  · exact form4C b s p w h hok hs hE hb
  · exact form5C b s p w h hok hs hE hA hb
theorem mode_len {s : Str} {p : PS} (h : PSok s p) (n : Nat) (hs : s.length ≤ 1000) : (p.modeP n).2.2.length ≤ 1000000 := by
  have ha : ∀ w : Str, w.length ≤ 1000 → (autsV w).length ≤ 1000000 := fun w hw => by
    have e := comma_split (bs w)
    rw [bl_bs] at e
    have l := comma_le (bs w)
    have e2 := bl_length (bs w)
    rw [bl_bs] at e2
    unfold autsV
    rw [List.length_map, ← e, List.length_map]
    omega
  unfold PS.modeP
  split
  · exact Nat.zero_le _
  · split
    · exact Nat.zero_le _
    · unfold PS.autsP
      split
      · rename_i h1
        have := next_len (h.next n) n h1
        exact ha _ (by omega)
      · exact Nat.zero_le _
theorem readK_mods (k : Fin 5) {s : Str} {p : PS} (h : PSok s p) (n : Nat) (hs : s.length ≤ 1000) : (readK k n s p).2.mods.length ≤ 1000000 := by
  have : k = 0 ∨ k = 1 ∨ k = 2 ∨ k = 3 ∨ k = 4 := by omega
  rcases this with rfl | rfl | rfl | rfl | rfl
  · exact Nat.zero_le _
  · exact Nat.zero_le _
  · exact mode_len ((h.group n).num n 0 1000000) n hs
  · exact Nat.zero_le _
  · exact Nat.zero_le _
/-- Which kind a word names. -/
def kindK (w : Str) : Option (Fin 5) := (List.finRange 5).find? fun k => decide (bl (keyK k) = w)
/-- What Parse returns. -/
def parseS (s : Str) : Cm × Nat × Int :=
  if 1000 < s.length then (cm0 0, 0, 5) else match kindK ((splitL 32 s).headD []) with
  | some k => finP s.length (readK k s.length s ⟨0, ((splitL 32 s).headD []).length, (splitL 32 s).tail, 0, 0⟩)
  | none => (cm0 0, 0, 11)
theorem parseAll (s : ByteArray) (w : World) (hE : Env w) (hA : Alph w) (hb : 1 < w.heap.size) : Calls Tryz.prog 7 #[.string s] w (PrPost (parseS (bl s)) w) := by
  have hl := bl_length s
  unfold parseS
  by_cases hs : 1000 < s.size
  · rw [if_pos (by rw [hl]; exact hs)]; exact parseLong s w hs
  · rw [if_neg (by rw [hl]; exact hs), hl]
    obtain ⟨w0, ws, hsp⟩ : ∃ w0 ws, splitL 32 (bl s) = w0 :: ws := by
      cases h : splitL 32 (bl s) with
      | nil => exact absurd h (splitL_ne 32 (bl s))
      | cons a l => exact ⟨a, l, rfl⟩
    rw [hsp]
    simp only [List.headD_cons, List.tail_cons]
    cases hk : kindK w0 with
    | none =>
      refine parseBad s w w0 ws hsp (fun k e => ?_) (by omega) hE
      have := List.find?_eq_none.1 hk k (List.mem_finRange k)
      exact this (by rw [e, bl_bs]; simp)
    | some k =>
      have h1 := List.find?_some hk
      have hkk : bs w0 = keyK k := by rw [← of_decide_eq_true h1]; rfl
      have hok := PSok.start hsp
      exact parseC s w k w0 ws _ hsp hkk (by omega) hE hb (readK_mods k hok s.size (by omega)) (fun U b hg hbb hp => readKC k b s _ U hp hok (by omega) (hE.gr hg) (hA.gr hg) (by omega))
end Go.Proofs.YtcjacgjeiljfgaaGreatDoor

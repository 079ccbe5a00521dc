/- Numbers read off words: decimal. -/
import Derived.Test.YtcdcmohccbhchaaGreatDoorKWds
namespace Go.Proofs.YtcdcmohccbhchaaGreatDoor
open Go.RowKit

theorem decT_succ (s : ByteArray) (k : Nat) (h : k < s.size) : ((bl s).take (k + 1)).all isD = (((bl s).take k).all isD && (!decide ((s[k].toNat : Int) < 48) && !decide (57 < (s[k].toNat : Int)))) ∧ numL ((bl s).take (k + 1)) = 10 * numL ((bl s).take k) + (s[k].toNat - 48) := by
  have hl : k < (bl s).length := by rw [bl_length]; exact h
  have e : (bl s)[k] = s[k] := rfl
  rw [List.take_succ_eq_append_getElem hl, e]
  refine ⟨?_, numL_snoc _ _⟩
  rw [List.all_append]
  congr 1
  rw [List.all_cons, List.all_nil, Bool.and_true]
  unfold isD
  rw [Bool.eq_iff_iff]
  simp
  omega
theorem all_stop (s : Str) (k : Nat) (h : (s.take k).all isD = false) : s.all isD = false := by
  cases hs : s.all isD with
  | false => rfl
  | true =>
    rw [← List.take_append_drop k s, List.all_append, Bool.and_eq_true] at hs
    rw [hs.1] at h; cases h
def decR2 (s : Str) : Value := .tuple #[.int .i64 (if numB s = true then (numL s : Int) else 0), .bool (numB s)]
theorem headD_get (s : ByteArray) (h : 0 < s.size) : (bl s).headD 0 = s[0] := by
  have hl : 0 < (bl s).length := by rw [bl_length]; exact h
  obtain ⟨c, l, hcl⟩ : ∃ c l, bl s = c :: l := by cases e : bl s with | nil => rw [e] at hl; simp at hl | cons c l => exact ⟨c, l, rfl⟩
  have e : (bl s)[0]'hl = s[0] := rfl
  exact Eq.trans (show (bl s).headD 0 = c by rw [hcl]; rfl) (Eq.trans (by simp [hcl]) e)
set_option maxRecDepth 100000 in
set_option maxHeartbeats 2000000 in
theorem decimalC (s : ByteArray) (w : World) : Calls Tryz.prog 110 #[.string s] w fun e w' => e = .returned (decR2 (bl s)) ∧ w = w' := by
  have hsz := bl_length s
  by_cases h0 : s.size = 0
  · have hl : bl s = [] := List.length_eq_zero_iff.1 (by rw [hsz]; exact h0)
    have he : s.toList.isEmpty = true := by rw [bl_toList, hl]; rfl
    have HF : Hid (decR2 (bl s) = .tuple #[.int .i64 0, .bool false]) := by show _ = _; rw [hl]; rfl
    clear hl h0 hsz
    go_enter Tryz.func110, Tryz.ntmps110
    go_wp2_with fail
    go_ret2
    exact ⟨by rw [HF.out]; rfl, rfl⟩
  · have hp : 0 < s.size := by omega
    have he : s.toList.isEmpty = false := by rw [bl_toList, List.isEmpty_eq_false_iff]; intro h; rw [h] at hsz; simp at hsz; omega
    by_cases h7 : 7 < s.size
    · have HF : Hid (decR2 (bl s) = .tuple #[.int .i64 0, .bool false]) := by
        have : numB (bl s) = false := by unfold numB; rw [hsz]; simp; omega
        show _ = _; unfold decR2; rw [this]; rfl
      have hd : decide (7 < (s.size : Int)) = true := by simp; omega
      clear hsz h0
      go_enter Tryz.func110, Tryz.ntmps110
      go_wp2_with fail
      go_ret2
      exact ⟨by rw [HF.out]; rfl, rfl⟩
    · have hd : decide (7 < (s.size : Int)) = false := by simp; omega
      have HH := Lib.hid (headD_get s hp)
      by_cases h1 : 1 < s.size ∧ s[0].toNat = 48
      · have HF : Hid (decR2 (bl s) = .tuple #[.int .i64 0, .bool false]) := by
          have : numB (bl s) = false := by
            unfold numB; rw [hsz, HH.out]
            have : (s[0] == 48) = true := by rw [beq_iff_eq]; exact UInt8.toNat_inj.1 h1.2
            rw [this]; simp [h1.1]
          show _ = _; unfold decR2; rw [this]; rfl
        have hd1 : decide (1 < (s.size : Int)) = true := by simp; omega
        have hc : ((s[0].toNat : Int) == 48) = true := by rw [h1.2]; rfl
        clear hsz h0 h1
        go_enter Tryz.func110, Tryz.ntmps110
        go_wp2_with fail
        go_ret2
        exact ⟨by rw [HF.out]; rfl, rfl⟩
      · have HN : Hid (numB (bl s) = (bl s).all isD) := by
          show _ = _
          unfold numB; rw [hsz, HH.out]
          have a1 : decide (1 ≤ s.size) = true := by simp; omega
          have a2 : decide (s.size ≤ 7) = true := by simp; omega
          have a3 : (decide (1 < s.size) && s[0] == 48) = false := by
            rw [Bool.and_eq_false_iff]
            by_cases q : 1 < s.size
            · right; rw [beq_eq_false_iff_ne]; intro e; exact h1 ⟨q, by rw [e]; rfl⟩
            · left; simpa using q
          rw [a1, a2, a3]; rfl
        have hcases : decide (1 < (s.size : Int)) = false ∨ (decide (1 < (s.size : Int)) = true ∧ ((s[0].toNat : Int) == 48) = false) := by
          by_cases q : 1 < s.size
          · right; refine ⟨by simp; omega, ?_⟩
            rw [beq_eq_false_iff_ne]; intro e; exact h1 ⟨q, by omega⟩
          · left; simp; omega
        have HSZ := Lib.hid hsz
        clear hsz h1
        rcases hcases with hd1 | ⟨hd1, hc0⟩
        · go_enter Tryz.func110, Tryz.ntmps110
          go_wp2_with fail
          go_loop [4, 5, 25, 26, 27, 28, 29, 30, 31, 32, 33, 34, 35, 36, 37, 38, 39, 40, 41, 42, 43, 44, 45, 46] (fun nn _ i _ _ _ _ _ _ _ _ _ _ _ _ _ _ _ _ _ _ _ _ _ => ∃ k : Nat, k ≤ s.size ∧ i = .int .i64 k ∧ nn = .int .i64 (numL ((bl s).take k) : Int) ∧ Hid (((bl s).take k).all isD = true)) (fun _ _ i _ _ _ _ _ _ _ _ _ _ _ _ _ _ _ _ _ _ _ _ _ => s.size - (intOf i).toNat)
          case atStart => exact ⟨0, Nat.zero_le _, rfl, rfl, rfl⟩
          case round =>
            obtain ⟨k, hk, rfl, rfl, hh⟩ := hrel
            by_cases hlt : k < s.size
            · have HS := Lib.hid (decT_succ s k hlt)
              have HST : Hid (((bl s).take (k + 1)).all isD = false → (bl s).all isD = false) := all_stop _ _
              have hk1 : (k : Int) < (s.size : Int) := by omega
              have hk2 : (0 : Int) ≤ (k : Int) := by omega
              have hb1 := numL_lt ((bl s).take k) hh.out
              have hb2 : numL ((bl s).take k) < 10000000 := Nat.lt_of_lt_of_le hb1 (show 10 ^ ((bl s).take k).length ≤ 10 ^ 7 from Nat.pow_le_pow_right (by decide) (by rw [List.length_take]; omega))
              have hcb := s[k].toNat_lt
              generalize hnv : numL ((bl s).take k) = nv at *
              have HC : Hid (numL ((bl s).take (k + 1)) = 10 * nv + (s[k].toNat - 48)) := HS.out.2
              have HA : Hid (((bl s).take (k + 1)).all isD = (((bl s).take k).all isD && (!decide ((s[k].toNat : Int) < 48) && !decide (57 < (s[k].toNat : Int))))) := HS.out.1
              clear HS hb1
              generalize hcn : s[k].toNat = cn at *
              cases hx : decide ((cn : Int) < 48) with
              | true =>
                have HF : Hid ((bl s).all isD = false) := HST.out (by rw [HA.out, hx]; simp)
                go_wp2_with fail
                go_ret2
                exact ⟨by unfold decR2; rw [HN.out, HF.out]; rfl, rfl⟩
              | false =>
                cases hy : decide (57 < (cn : Int)) with
                | true =>
                  have HF : Hid ((bl s).all isD = false) := HST.out (by rw [HA.out, hy]; simp)
                  go_wp2_with fail
                  go_ret2
                  exact ⟨by unfold decR2; rw [HN.out, HF.out]; rfl, rfl⟩
                | false =>
                  have HF : Hid (((bl s).take (k + 1)).all isD = true) := by show _ = _; rw [HA.out, hx, hy, hh.out]; rfl
                  have hr1 : 48 ≤ cn := by have := of_decide_eq_false hx; omega
                  have hr2 : cn ≤ 57 := by have := of_decide_eq_false hy; omega
                  have w1 : IntKind.i64.wrap (10 * (nv : Int)) = 10 * (nv : Int) := by rw [IntKind.wrap_i64]; omega
                  have w2 : IntKind.u8.wrap ((cn : Int) - 48) = ((cn - 48 : Nat) : Int) := by rw [IntKind.wrap_u8]; omega
                  have w3 : IntKind.i64.wrap (10 * (nv : Int) + ((cn - 48 : Nat) : Int)) = ((10 * nv + (cn - 48) : Nat) : Int) := by rw [IntKind.wrap_i64]; omega
                  have w4 : IntKind.i64.wrap ((cn - 48 : Nat) : Int) = ((cn - 48 : Nat) : Int) := by rw [IntKind.wrap_i64]; omega
                  generalize hq : cn - 48 = q at *
                  go_wp2_with fail
                  go_round
                  case rel => exact ⟨k + 1, by omega, by go_num, by rw [HC.out]; first | rfl | (congr 1; omega), HF.out⟩
                  case measure => simp [intOf]; omega
            · have hk1 : ¬ (k : Int) < (s.size : Int) := by omega
              have HF : Hid ((bl s).take k = bl s) := List.take_of_length_le (by rw [HSZ.out]; omega)
              clear HSZ
              go_wp2_with fail
              go_ret2
              have h2 := hh.out
              rw [HF.out] at h2
              refine ⟨?_, rfl⟩
              unfold decR2
              rw [HN.out, h2, HF.out]; rfl
        · go_enter Tryz.func110, Tryz.ntmps110
          go_wp2_with fail
          go_loop [4, 5, 25, 26, 27, 28, 29, 30, 31, 32, 33, 34, 35, 36, 37, 38, 39, 40, 41, 42, 43, 44, 45, 46] (fun nn _ i _ _ _ _ _ _ _ _ _ _ _ _ _ _ _ _ _ _ _ _ _ => ∃ k : Nat, k ≤ s.size ∧ i = .int .i64 k ∧ nn = .int .i64 (numL ((bl s).take k) : Int) ∧ Hid (((bl s).take k).all isD = true)) (fun _ _ i _ _ _ _ _ _ _ _ _ _ _ _ _ _ _ _ _ _ _ _ _ => s.size - (intOf i).toNat)
          case atStart => exact ⟨0, Nat.zero_le _, rfl, rfl, rfl⟩
          case round =>
            obtain ⟨k, hk, rfl, rfl, hh⟩ := hrel
            by_cases hlt : k < s.size
            · have HS := Lib.hid (decT_succ s k hlt)
              have HST : Hid (((bl s).take (k + 1)).all isD = false → (bl s).all isD = false) := all_stop _ _
              have hk1 : (k : Int) < (s.size : Int) := by omega
              have hk2 : (0 : Int) ≤ (k : Int) := by omega
              have hb1 := numL_lt ((bl s).take k) hh.out
              have hb2 : numL ((bl s).take k) < 10000000 := Nat.lt_of_lt_of_le hb1 (show 10 ^ ((bl s).take k).length ≤ 10 ^ 7 from Nat.pow_le_pow_right (by decide) (by rw [List.length_take]; omega))
              have hcb := s[k].toNat_lt
              generalize hnv : numL ((bl s).take k) = nv at *
              have HC : Hid (numL ((bl s).take (k + 1)) = 10 * nv + (s[k].toNat - 48)) := HS.out.2
              have HA : Hid (((bl s).take (k + 1)).all isD = (((bl s).take k).all isD && (!decide ((s[k].toNat : Int) < 48) && !decide (57 < (s[k].toNat : Int))))) := HS.out.1
              clear HS hb1
              generalize hcn : s[k].toNat = cn at *
              cases hx : decide ((cn : Int) < 48) with
              | true =>
                have HF : Hid ((bl s).all isD = false) := HST.out (by rw [HA.out, hx]; simp)
                go_wp2_with fail
                go_ret2
                exact ⟨by unfold decR2; rw [HN.out, HF.out]; rfl, rfl⟩
              | false =>
                cases hy : decide (57 < (cn : Int)) with
                | true =>
                  have HF : Hid ((bl s).all isD = false) := HST.out (by rw [HA.out, hy]; simp)
                  go_wp2_with fail
                  go_ret2
                  exact ⟨by unfold decR2; rw [HN.out, HF.out]; rfl, rfl⟩
                | false =>
                  have HF : Hid (((bl s).take (k + 1)).all isD = true) := by show _ = _; rw [HA.out, hx, hy, hh.out]; rfl
                  have hr1 : 48 ≤ cn := by have := of_decide_eq_false hx; omega
                  have hr2 : cn ≤ 57 := by have := of_decide_eq_false hy; omega
                  have w1 : IntKind.i64.wrap (10 * (nv : Int)) = 10 * (nv : Int) := by rw [IntKind.wrap_i64]; omega
                  have w2 : IntKind.u8.wrap ((cn : Int) - 48) = ((cn - 48 : Nat) : Int) := by rw [IntKind.wrap_u8]; omega
                  have w3 : IntKind.i64.wrap (10 * (nv : Int) + ((cn - 48 : Nat) : Int)) = ((10 * nv + (cn - 48) : Nat) : Int) := by rw [IntKind.wrap_i64]; omega
                  have w4 : IntKind.i64.wrap ((cn - 48 : Nat) : Int) = ((cn - 48 : Nat) : Int) := by rw [IntKind.wrap_i64]; omega
                  generalize hq : cn - 48 = q at *
                  go_wp2_with fail
                  go_round
                  case rel => exact ⟨k + 1, by omega, by go_num, by rw [HC.out]; first | rfl | (congr 1; omega), HF.out⟩
                  case measure => simp [intOf]; omega
            · have hk1 : ¬ (k : Int) < (s.size : Int) := by omega
              have HF : Hid ((bl s).take k = bl s) := List.take_of_length_le (by rw [HSZ.out]; omega)
              clear HSZ
              go_wp2_with fail
              go_ret2
              have h2 := hh.out
              rw [HF.out] at h2
              refine ⟨?_, rfl⟩
              unfold decR2
              rw [HN.out, h2, HF.out]; rfl
end Go.Proofs.YtcdcmohccbhchaaGreatDoor

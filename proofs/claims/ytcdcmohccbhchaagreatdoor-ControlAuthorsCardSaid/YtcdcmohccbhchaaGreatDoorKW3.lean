/- checkText, checkMode. -/
import Derived.Test.YtcdcmohccbhchaaGreatDoorKW2
namespace Go.Proofs.YtcdcmohccbhchaaGreatDoor
open Go.RowKit

def badT (s : Str) : Bool := s.any fun c => decide (c < 32) || decide (126 < c)
theorem badT_succ (s : ByteArray) (k : Nat) (h : k < s.size) : badT ((bl s).take (k + 1)) = (badT ((bl s).take k) || (decide ((s[k].toNat : Int) < 32) || decide (126 < (s[k].toNat : Int)))) := by
  have hl : k < (bl s).length := by rw [bl_length]; exact h
  have e : (bl s)[k] = s[k] := rfl
  unfold badT
  rw [List.take_succ_eq_append_getElem hl, List.any_append, e]
  congr 1
  rw [Bool.eq_iff_iff]
  simp [UInt8.lt_iff_toNat_lt]
  omega
theorem badT_stop (s : Str) (k : Nat) (h : badT (s.take k) = true) : badT s = true := by
  unfold badT at *
  rw [List.any_eq_true] at *
  obtain ⟨c, hc, hp⟩ := h
  exact ⟨c, List.mem_of_mem_take hc, hp⟩
theorem pre32 (s : Str) : Lib.hasPrefix s [32] = true ↔ s.head? = some 32 := by
  cases s with
  | nil => exact ⟨fun h => (by cases h), fun h => (by cases h)⟩
  | cons c s =>
    show (([32] : Str).isPrefixOf (c :: s)) = true ↔ some c = some 32
    rw [List.isPrefixOf, List.isPrefixOf, Bool.and_true, beq_iff_eq, Option.some.injEq]
    exact eq_comm
theorem suf32 (s : Str) : Lib.hasSuffix s [32] = true ↔ s.getLast? = some 32 := by
  unfold Lib.hasSuffix
  rw [List.isSuffixOf_iff_suffix]
  constructor
  · rintro ⟨t, rfl⟩; exact List.getLast?_concat
  · intro h
    rcases List.eq_nil_or_concat s with rfl | ⟨t, c, rfl⟩
    · simp at h
    · rw [List.concat_eq_append] at *
      rw [List.getLast?_concat] at h
      rw [Option.some.inj h]; exact ⟨t, rfl⟩
set_option maxRecDepth 100000 in
set_option maxHeartbeats 2000000 in
theorem textC (s : ByteArray) (w : World) (hs : s.size ≤ 9223372036854775807) : Calls Tryz.prog 45 #[.string s] w fun e w' => e = .returned (.int .i64 (textErr (bl s))) ∧ w = w' := by
  have hsz := bl_length s
  by_cases h1 : 200 < s.size
  · have hf : Hid (textErr (bl s) = 5) := by show _ = _; unfold textErr; rw [hsz, if_pos h1]
    go_enter Tryz.func45, Tryz.ntmps45
    go_wp2_with fail
    go_ret
    exact ⟨ret_int hf.out.symm, rfl⟩
  · have hf : Hid (textErr (bl s) = if badT (bl s) = true then 6 else if (bl s).head? = some 32 ∨ (bl s).getLast? = some 32 then 3 else 0) := by show _ = _; unfold textErr; rw [hsz, if_neg h1]; rfl
    have HSZ := Lib.hid hsz
    have HP := Lib.hid (Tryz.strings_HasPrefix s ⟨#[32]⟩ w)
    have HX := Lib.hid (Tryz.strings_HasSuffix s ⟨#[32]⟩ w hs)
    have EP : Hid (Lib.hasPrefix s.data.toList [32] = true ↔ (bl s).head? = some 32) := pre32 _
    have EX : Hid (Lib.hasSuffix s.data.toList [32] = true ↔ (bl s).getLast? = some 32) := suf32 _
    have e32 : (⟨#[32]⟩ : ByteArray).data.toList = [32] := rfl
    rw [e32] at HP HX
    clear hsz e32
    go_enter Tryz.func45, Tryz.ntmps45
    go_wp2_with fail
    go_loop [3, 9, 10, 11, 12, 13, 14, 15, 16, 17, 18, 19, 20, 21, 22] (fun _ i _ _ _ _ _ _ _ _ _ _ _ _ _ => ∃ k : Nat, k ≤ s.size ∧ i = .int .i64 k ∧ Hid (badT ((bl s).take k) = false)) (fun _ i _ _ _ _ _ _ _ _ _ _ _ _ _ => s.size - (intOf i).toNat)
    case atStart => exact ⟨0, Nat.zero_le _, rfl, rfl⟩
    case round =>
      obtain ⟨k, hk, rfl, hh⟩ := hrel
      by_cases hlt : k < s.size
      · have HS := Lib.hid (badT_succ s k hlt)
        have HST : Hid (badT ((bl s).take (k + 1)) = true → badT (bl s) = true) := badT_stop _ _
        have hk1 : (k : Int) < (s.size : Int) := by omega
        have hk2 : (0 : Int) ≤ (k : Int) := by omega
        generalize hc : (s[k].toNat : Int) = c at *
        cases hx : decide (c < 32) with
        | true =>
          have HF : Hid (badT (bl s) = true) := HST.out (by rw [HS.out, hx]; simp)
          go_wp2_with fail
          go_ret
          exact ⟨ret_int (by rw [hf.out, if_pos HF.out]), rfl⟩
        | false =>
          cases hy : decide (126 < c) with
          | true =>
            have HF : Hid (badT (bl s) = true) := HST.out (by rw [HS.out, hy]; simp)
            go_wp2_with fail
            go_ret
            exact ⟨ret_int (by rw [hf.out, if_pos HF.out]), rfl⟩
          | false =>
            have HF : Hid (badT ((bl s).take (k + 1)) = false) := by show _ = _; rw [HS.out, hx, hy, hh.out]; rfl
            go_wp2_with fail
            go_round
            case rel => exact ⟨k + 1, by omega, by go_num, HF.out⟩
            case measure => simp [intOf]; omega
      · have hk1 : ¬ (k : Int) < (s.size : Int) := by omega
        have HF : Hid (badT (bl s) = false) := by
          have := hh.out
          rw [List.take_of_length_le (by rw [HSZ.out]; omega)] at this
          exact this
        clear HSZ
        cases hp : Lib.hasPrefix s.data.toList [32] with
        | true =>
          rw [hp] at HP
          have HE : Hid ((bl s).head? = some 32) := EP.out.1 hp
          go_wp2_with (go_at_call 73; refine HP.out.mono ?_; rintro e w' ⟨rfl, rfl⟩)
          go_ret
          exact ⟨ret_int (by rw [hf.out, HF.out, if_neg (by decide), if_pos (.inl HE.out)]), rfl⟩
        | false =>
          rw [hp] at HP
          have HE : Hid (¬ (bl s).head? = some 32) := fun h => by have := EP.out.2 h; rw [hp] at this; cases this
          cases hq : Lib.hasSuffix s.data.toList [32] with
          | true =>
            rw [hq] at HX
            have HE2 : Hid ((bl s).getLast? = some 32) := EX.out.1 hq
            go_wp2_with (first | (go_at_call 73; refine HP.out.mono ?_; rintro e w' ⟨rfl, rfl⟩) | (go_at_call 74; refine HX.out.mono ?_; rintro e w' ⟨rfl, rfl⟩))
            go_ret
            exact ⟨ret_int (by rw [hf.out, HF.out, if_neg (by decide), if_pos (.inr HE2.out)]), rfl⟩
          | false =>
            rw [hq] at HX
            have HE2 : Hid (¬ (bl s).getLast? = some 32) := fun h => by have := EX.out.2 h; rw [hq] at this; cases this
            go_wp2_with (first | (go_at_call 73; refine HP.out.mono ?_; rintro e w' ⟨rfl, rfl⟩) | (go_at_call 74; refine HX.out.mono ?_; rintro e w' ⟨rfl, rfl⟩))
            go_ret
            exact ⟨ret_int (by rw [hf.out, HF.out, if_neg (by decide), if_neg (by rintro (h | h); exact HE.out h; exact HE2.out h)]), rfl⟩

/-! ### checkMode -/
set_option maxRecDepth 100000 in
set_option maxHeartbeats 2000000 in
theorem modeCkC (c : Cm) (v : Value) (w : World) (hv : AutsAt w v c.mods) (hl : c.mods.length ≤ 1000000) :
    Calls Tryz.prog 44 #[.agg (cmC c v).toArray] w fun e w' => e = .returned (.int .i64 (modeErr c)) ∧ Gr w w' := by
  have g0 := (Gr.refl w).alloc (.cells (cmC c v).toArray 37)
  have HI := Lib.hid (incC c.mods v _ (hv.gr g0) hl)
  obtain ⟨a, cap, hsl, _⟩ := hv
  rw [List.length_map] at hsl
  subst hsl
  have G0 := Lib.hid g0
  clear g0
  cases hm : c.moderated with
  | false =>
    have hf : Hid (modeErr c = if 0 < c.mods.length then 3 else 0) := by show _ = _; unfold modeErr; rw [if_pos hm]
    generalize c.mods.length = n at *
    go_enter Tryz.func44, Tryz.ntmps44
    go_wp2_with fail
    all_goals
      go_ret
      refine ⟨ret_int ?_, G0.out⟩
      rw [hf.out]
      first | (rw [if_pos (by omega)]) | (rw [if_neg (by omega)])
  | true =>
    have hf : Hid (modeErr c = if c.mods.length = 0 then 1 else if 8 < c.mods.length then 9 else if incA c.mods = false then 30 else 0) := by show _ = _; unfold modeErr; rw [if_neg (by rw [hm]; decide)]; rfl
    cases hi : incA c.mods with
    | true =>
      rw [hi] at HI
      have hf2 : Hid (modeErr c = if c.mods.length = 0 then 1 else if 8 < c.mods.length then 9 else 0) := by show _ = _; rw [hf.out, hi]; rfl
      clear hf
      generalize c.mods.length = n at *
      go_enter Tryz.func44, Tryz.ntmps44
      go_wp2_with (go_at_call 72; refine HI.out.mono ?_; rintro e w' ⟨rfl, hg1⟩)
      all_goals
        go_ret
        refine ⟨ret_int ?_, by first | exact G0.out | exact G0.out.trans hg1⟩
        rw [hf2.out]
        split <;> first | rfl | (split <;> first | rfl | (exfalso; simp_all <;> omega)) | (exfalso; simp_all <;> omega)
    | false =>
      rw [hi] at HI
      have hf2 : Hid (modeErr c = if c.mods.length = 0 then 1 else if 8 < c.mods.length then 9 else 30) := by show _ = _; rw [hf.out, hi]; rfl
      clear hf
      generalize c.mods.length = n at *
      go_enter Tryz.func44, Tryz.ntmps44
      go_wp2_with (go_at_call 72; refine HI.out.mono ?_; rintro e w' ⟨rfl, hg1⟩)
      all_goals
        go_ret
        refine ⟨ret_int ?_, by first | exact G0.out | exact G0.out.trans hg1⟩
        rw [hf2.out]
        split <;> first | rfl | (split <;> first | rfl | (exfalso; simp_all <;> omega)) | (exfalso; simp_all <;> omega)
end Go.Proofs.YtcdcmohccbhchaaGreatDoor

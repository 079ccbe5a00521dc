/- What reads a group's name and a number off the words. -/
import Derived.Test.YtcdcmohccbhchaaGreatDoorKDec
namespace Go.Proofs.YtcdcmohccbhchaaGreatDoor
open Go.RowKit

theorem Env.grown {w w' : World} {b : Nat} (h : Env w) (hg : w.grownBy w' (some b)) (hb : 1 < b) : Env w' := by
  obtain ⟨m, hm⟩ := h
  exact ⟨m, grown_cell hg hm (by simp; omega)⟩
theorem fail_zero (p : PS) (a : Nat) : p.fail a 0 = p := by unfold PS.fail; rw [if_neg (by simp)]
theorem next_false {p : PS} {n : Nat} (h : (p.next n).2.2 = false) : (p.next n).2.1 = [] := by
  unfold PS.next at *
  by_cases h0 : p.e ≠ 0
  · rw [if_pos h0]
  · rw [if_neg h0] at h ⊢
    cases hr : p.rest with
    | nil => rfl
    | cons w ws => rw [hr] at h; cases h
set_option maxRecDepth 100000 in
set_option maxHeartbeats 2000000 in
theorem groupC (b : Nat) (s : ByteArray) (p : PS) (w : World) (h : PSAt w b s p) (hok : PSok (bl s) p) (hs : s.size ≤ 1000000) (hE : Env w) (hb : 1 < b) :
    Calls Tryz.prog 82 #[.pointer (some ⟨b, 0, none⟩)] w (PSPost b s (p.groupP s.size).1 w (.string (bs (p.groupP s.size).2))) := by
  have HN := Lib.hid (nextC b s p w h hok hs hE hb)
  have HE := Lib.hid hE
  have HF : Hid (p.groupP s.size = if (p.next s.size).2.2 = true then ((p.next s.size).1.fail (p.next s.size).1.start (groupE (p.next s.size).2.1), (p.next s.size).2.1) else ((p.next s.size).1, [])) := rfl
  have HX : Hid ((p.next s.size).2.2 = false → (p.next s.size).2.1 = []) := next_false
  clear h hok hE
  generalize p.next s.size = q at *
  obtain ⟨p1, x, ok⟩ := q
  simp only at HN HF HX
  cases ok with
  | false =>
    have hx := HX.out rfl
    subst hx
    go_enter Tryz.func82, Tryz.ntmps82
    go_wp2_with fail
    refine HN.out.mono ?_
    rintro e w1 ⟨rfl, h1, hg1⟩
    have H1 := Lib.hid h1; have HG1 := Lib.hid hg1
    clear h1 hg1
    go_wp2_with fail
    go_ret
    exact ⟨by rw [HF.out]; rfl, by rw [HF.out]; exact H1.out, HG1.out⟩
  | true =>
    by_cases hn : nameErr (bs x) = 0
    · have HE0 : Hid (groupE x = 0) := by show _ = _; unfold groupE; rw [if_neg (by simp [hn])]
      go_enter Tryz.func82, Tryz.ntmps82
      go_wp2_with fail
      refine HN.out.mono ?_
      rintro e w1 ⟨rfl, h1, hg1⟩
      have H1 := Lib.hid h1; have HG1 := Lib.hid hg1
      clear h1 hg1
      go_wp2_with (go_at_call 42; refine (checkName _ _ (HE.out.grown HG1.out hb)).mono ?_; rintro e w2 ⟨rfl, hg2⟩; rw [hn])
      have H2 := Lib.hid (H1.out.gr hg2); have HG2 := Lib.hid (grown_trans HG1.out (grown_gr hg2))
      go_ret
      exact ⟨by rw [HF.out]; rfl, by rw [HF.out, if_pos trivial, HE0.out]; rw [fail_zero]; exact H2.out, HG2.out⟩
    · have HE0 : Hid (groupE x = 12) := by show _ = _; unfold groupE; rw [if_pos hn]
      have hn1 : (nameErr (bs x) != 0) = true := by simp [hn]
      go_enter Tryz.func82, Tryz.ntmps82
      go_wp2_with fail
      refine HN.out.mono ?_
      rintro e w1 ⟨rfl, h1, hg1⟩
      have H1 := Lib.hid h1; have HG1 := Lib.hid hg1
      clear h1 hg1
      go_wp2_with fail
      refine (checkName _ _ (HE.out.grown HG1.out hb)).mono ?_
      rintro e w2 ⟨rfl, hg2⟩
      have h2 := H1.out.gr hg2
      obtain ⟨d0, d1, d2, d3, d4, _, hz⟩ := h2.facts
      have H2 := Lib.hid h2; have HG2 := Lib.hid (grown_trans HG1.out (grown_gr hg2))
      have HFC := Lib.hid (failC b s p1 p1.start 12 w2 h2)
      clear h2 hg2 hn
      generalize nameErr (bs x) = ne at *
      go_wp2_with fail
      refine HFC.out.mono ?_
      rintro e w3 ⟨rfl, h3, hg3⟩
      have H3 := Lib.hid h3; have HG3 := Lib.hid (grown_trans HG2.out hg3)
      clear h3 hg3 d0 d1 d2 d3 d4 hz
      go_wp2_with fail
      go_ret
      exact ⟨by rw [HF.out]; rfl, by rw [HF.out, if_pos trivial, HE0.out]; exact H3.out, HG3.out⟩
set_option maxRecDepth 100000 in
set_option maxHeartbeats 2000000 in
theorem numberC (b : Nat) (s : ByteArray) (p : PS) (lo hi : Int) (w : World) (h : PSAt w b s p) (hok : PSok (bl s) p) (hs : s.size ≤ 1000000) (hE : Env w) (hb : 1 < b) :
    Calls Tryz.prog 84 #[.pointer (some ⟨b, 0, none⟩), .int .i64 lo, .int .i64 hi] w (PSPost b s (p.numP s.size lo hi).1 w (.int .i64 (p.numP s.size lo hi).2)) := by
  have HN := Lib.hid (nextC b s p w h hok hs hE hb)
  have HF : Hid (p.numP s.size lo hi = if (p.next s.size).2.2 = true then ((p.next s.size).1.fail (p.next s.size).1.start (numE lo hi (p.next s.size).2.1), numV (p.next s.size).2.1) else ((p.next s.size).1, 0)) := rfl
  clear h hok hE
  generalize p.next s.size = q at *
  obtain ⟨p1, x, ok⟩ := q
  simp only at HN HF
  cases ok with
  | false =>
    go_enter Tryz.func84, Tryz.ntmps84
    go_wp2_with fail
    refine HN.out.mono ?_
    rintro e w1 ⟨rfl, h1, hg1⟩
    have H1 := Lib.hid h1; have HG1 := Lib.hid hg1
    clear h1 hg1
    go_wp2_with fail
    go_ret
    exact ⟨by rw [HF.out]; rfl, by rw [HF.out]; exact H1.out, HG1.out⟩
  | true =>
    have HD : Hid (∀ W, Calls Tryz.prog 110 #[.string (bs x)] W fun e w' => e = .returned (.tuple #[.int .i64 (numV x), .bool (numB x)]) ∧ W = w') := decimalC (bs x)
    have HV : Hid (numE lo hi x = if numB x = false then 3 else if numV x < lo ∨ hi < numV x then 2 else 0) := by
      show _ = _
      unfold numE numV
      cases numB x <;> rfl
    generalize numV x = nv at *
    cases hnb : numB x with
    | false =>
      rw [hnb] at HD
      have HE0 : Hid (numE lo hi x = 3) := by show _ = _; rw [HV.out, if_pos hnb]
      go_enter Tryz.func84, Tryz.ntmps84
      go_wp2_with fail
      refine HN.out.mono ?_
      rintro e w1 ⟨rfl, h1, hg1⟩
      have HFC := Lib.hid (failC b s p1 p1.start 3 w1 h1)
      obtain ⟨d0, d1, d2, d3, d4, _, hz⟩ := h1.facts
      have HG1 := Lib.hid hg1
      clear h1 hg1
      go_wp2_with (go_at_call 110; refine (HD.out _).mono ?_; rintro e w' ⟨rfl, rfl⟩)
      refine HFC.out.mono ?_
      rintro e w3 ⟨rfl, h3, hg3⟩
      have H3 := Lib.hid h3; have HG3 := Lib.hid (grown_trans HG1.out hg3)
      clear h3 hg3 d0 d1 d2 d3 d4 hz
      go_wp2_with fail
      go_ret
      exact ⟨by rw [HF.out]; rfl, by rw [HF.out, if_pos trivial, HE0.out]; exact H3.out, HG3.out⟩
    | true =>
      rw [hnb] at HD
      by_cases hr : nv < lo ∨ hi < nv
      · have HE0 : Hid (numE lo hi x = 2) := by show _ = _; rw [HV.out, if_neg (by rw [hnb]; decide), if_pos hr]
        go_enter Tryz.func84, Tryz.ntmps84
        go_wp2_with fail
        refine HN.out.mono ?_
        rintro e w1 ⟨rfl, h1, hg1⟩
        have HFC := Lib.hid (failC b s p1 p1.start 2 w1 h1)
        obtain ⟨d0, d1, d2, d3, d4, _, hz⟩ := h1.facts
        have HG1 := Lib.hid hg1
        clear h1 hg1
        have hor : decide (nv < lo) = true ∨ (decide (nv < lo) = false ∧ decide (hi < nv) = true) := by
          rcases Decidable.em (nv < lo) with q | q
          · left; simpa using q
          · right; exact ⟨by simpa using q, by simp; omega⟩
        clear hr
        rcases hor with q1 | ⟨q1, q2⟩
        all_goals
          go_wp2_with (go_at_call 110; refine (HD.out _).mono ?_; rintro e w' ⟨rfl, rfl⟩)
          refine HFC.out.mono ?_
          rintro e w3 ⟨rfl, h3, hg3⟩
          have H3 := Lib.hid h3; have HG3 := Lib.hid (grown_trans HG1.out hg3)
          clear h3 hg3 d0 d1 d2 d3 d4 hz
          go_wp2_with fail
          go_ret
          exact ⟨by rw [HF.out]; rfl, by rw [HF.out, if_pos trivial, HE0.out]; exact H3.out, HG3.out⟩
      · have HE0 : Hid (numE lo hi x = 0) := by show _ = _; rw [HV.out, if_neg (by rw [hnb]; decide), if_neg hr]
        have q1 : decide (nv < lo) = false := by simp; omega
        have q2 : decide (hi < nv) = false := by simp; omega
        clear hr
        go_enter Tryz.func84, Tryz.ntmps84
        go_wp2_with fail
        refine HN.out.mono ?_
        rintro e w1 ⟨rfl, h1, hg1⟩
        have H1 := Lib.hid h1; have HG1 := Lib.hid hg1
        clear h1 hg1
        go_wp2_with (go_at_call 110; refine (HD.out _).mono ?_; rintro e w' ⟨rfl, rfl⟩)
        go_ret
        exact ⟨by rw [HF.out]; rfl, by rw [HF.out, if_pos trivial, HE0.out]; rw [fail_zero]; exact H1.out, HG1.out⟩
end Go.Proofs.YtcdcmohccbhchaaGreatDoor

/- control.Equal: whether two commands are equal. -/
import Derived.Test.YtcdcmohccbhchaaGreatDoorKW2
namespace Go.Proofs.YtcdcmohccbhchaaGreatDoor
open Go.RowKit

theorem str_beq {s t : ByteArray} : (s.toList == t.toList) = true ↔ s = t := by
  rw [beq_iff_eq, bl_toList, bl_toList]
  exact ⟨bl_inj, fun h => by rw [h]⟩
theorem cm_eq_iff (a b : Cm) : a = b ↔ ((a.kind == b.kind) = true ∧ (a.target == b.target) = true ∧ (a.group.toList == b.group.toList) = true ∧ (a.version == b.version) = true ∧ (a.moderated == b.moderated) = true ∧ decide (a.mods = b.mods) = true ∧ (a.text.toList == b.text.toList) = true ∧ (a.number == b.number) = true ∧ pubEq a.height a.root b.height b.root = true) := by
  constructor
  · rintro rfl
    simp [pubEq]
  · rintro ⟨h1, h2, h3, h4, h5, h6, h7, h8, h9⟩
    rw [str_beq] at h3 h7
    simp only [beq_iff_eq, decide_eq_true_eq, pubEq, Bool.and_eq_true] at h1 h2 h4 h5 h6 h8 h9
    cases a; cases b
    simp only at h1 h2 h3 h4 h5 h6 h7 h8 h9
    simp only [h1, h2, h3, h4, h5, h6, h7, h8, h9.1, h9.2]
set_option maxRecDepth 100000 in
set_option maxHeartbeats 4000000 in
theorem eqlC (a b : Cm) (va vb : Value) (w : World) (ha : AutsAt w va a.mods) (hb : AutsAt w vb b.mods) (hl : a.mods.length ≤ 1000000) :
    Calls Tryz.prog 23 #[.agg (cmC a va).toArray, .agg (cmC b vb).toArray] w fun e w' => e = .returned (.bool (decide (a = b))) ∧ Gr w w' := by
  have g0 := ((Gr.refl w).alloc (.cells (cmC a va).toArray 37)).alloc (.cells (cmC b vb).toArray 37)
  have HQ := Lib.hid (cm_eq_iff a b)
  have HCA := Lib.hid (eqAutsC a.mods b.mods va vb _ (ha.gr g0) (hb.gr g0) hl)
  have G0 := Lib.hid g0
  clear g0 ha hb
  cases h1 : (a.kind == b.kind) with
  | false =>
    have HN : Hid (decide (a = b) = false) := by show _ = _; rw [decide_eq_false_iff_not, HQ.out]; simp [h1]
    clear HQ
    go_enter Tryz.func23, Tryz.ntmps23
    go_wp2_with (go_at_call 56; refine HCA.out.mono ?_; rintro e w' ⟨rfl, hg1⟩; obtain ⟨p, rfl⟩ := hg1.gw)
    go_ret
    exact ⟨ret_bool HN.out.symm, by first | exact G0.out | exact G0.out.trans (gr_gw _ _)⟩
  | true =>
    cases h2 : (a.target == b.target) with
    | false =>
      have HN : Hid (decide (a = b) = false) := by show _ = _; rw [decide_eq_false_iff_not, HQ.out]; simp [h2]
      clear HQ
      go_enter Tryz.func23, Tryz.ntmps23
      go_wp2_with (go_at_call 56; refine HCA.out.mono ?_; rintro e w' ⟨rfl, hg1⟩; obtain ⟨p, rfl⟩ := hg1.gw)
      go_ret
      exact ⟨ret_bool HN.out.symm, by first | exact G0.out | exact G0.out.trans (gr_gw _ _)⟩
    | true =>
      cases h3 : (a.group.toList == b.group.toList) with
      | false =>
        have HN : Hid (decide (a = b) = false) := by show _ = _; rw [decide_eq_false_iff_not, HQ.out]; simp [h3]
        clear HQ
        go_enter Tryz.func23, Tryz.ntmps23
        go_wp2_with (go_at_call 56; refine HCA.out.mono ?_; rintro e w' ⟨rfl, hg1⟩; obtain ⟨p, rfl⟩ := hg1.gw)
        go_ret
        exact ⟨ret_bool HN.out.symm, by first | exact G0.out | exact G0.out.trans (gr_gw _ _)⟩
      | true =>
        cases h4 : (a.version == b.version) with
        | false =>
          have HN : Hid (decide (a = b) = false) := by show _ = _; rw [decide_eq_false_iff_not, HQ.out]; simp [h4]
          clear HQ
          go_enter Tryz.func23, Tryz.ntmps23
          go_wp2_with (go_at_call 56; refine HCA.out.mono ?_; rintro e w' ⟨rfl, hg1⟩; obtain ⟨p, rfl⟩ := hg1.gw)
          go_ret
          exact ⟨ret_bool HN.out.symm, by first | exact G0.out | exact G0.out.trans (gr_gw _ _)⟩
        | true =>
          cases h5 : (a.moderated == b.moderated) with
          | false =>
            have HN : Hid (decide (a = b) = false) := by show _ = _; rw [decide_eq_false_iff_not, HQ.out]; simp [h5]
            clear HQ
            go_enter Tryz.func23, Tryz.ntmps23
            go_wp2_with (go_at_call 56; refine HCA.out.mono ?_; rintro e w' ⟨rfl, hg1⟩; obtain ⟨p, rfl⟩ := hg1.gw)
            go_ret
            exact ⟨ret_bool HN.out.symm, by first | exact G0.out | exact G0.out.trans (gr_gw _ _)⟩
          | true =>
            cases h6 : decide (a.mods = b.mods) with
            | false =>
              have HN : Hid (decide (a = b) = false) := by show _ = _; rw [decide_eq_false_iff_not, HQ.out]; simp [h6]
              rw [h6] at HCA
              clear HQ
              go_enter Tryz.func23, Tryz.ntmps23
              go_wp2_with (go_at_call 56; refine HCA.out.mono ?_; rintro e w' ⟨rfl, hg1⟩; obtain ⟨p, rfl⟩ := hg1.gw)
              go_ret
              exact ⟨ret_bool HN.out.symm, by first | exact G0.out | exact G0.out.trans (gr_gw _ _)⟩
            | true =>
              cases h7 : (a.text.toList == b.text.toList) with
              | false =>
                have HN : Hid (decide (a = b) = false) := by show _ = _; rw [decide_eq_false_iff_not, HQ.out]; simp [h7]
                rw [h6] at HCA
                clear HQ
                go_enter Tryz.func23, Tryz.ntmps23
                go_wp2_with (go_at_call 56; refine HCA.out.mono ?_; rintro e w' ⟨rfl, hg1⟩; obtain ⟨p, rfl⟩ := hg1.gw)
                go_ret
                exact ⟨ret_bool HN.out.symm, by first | exact G0.out | exact G0.out.trans (gr_gw _ _)⟩
              | true =>
                cases h8 : (a.number == b.number) with
                | false =>
                  have HN : Hid (decide (a = b) = false) := by show _ = _; rw [decide_eq_false_iff_not, HQ.out]; simp [h8]
                  rw [h6] at HCA
                  clear HQ
                  go_enter Tryz.func23, Tryz.ntmps23
                  go_wp2_with (go_at_call 56; refine HCA.out.mono ?_; rintro e w' ⟨rfl, hg1⟩; obtain ⟨p, rfl⟩ := hg1.gw)
                  go_ret
                  exact ⟨ret_bool HN.out.symm, by first | exact G0.out | exact G0.out.trans (gr_gw _ _)⟩
                | true =>
                  cases h9 : pubEq a.height a.root b.height b.root with
                  | false =>
                    have HN : Hid (decide (a = b) = false) := by show _ = _; rw [decide_eq_false_iff_not, HQ.out]; simp [h9]
                    rw [h6] at HCA
                    clear HQ
                    go_enter Tryz.func23, Tryz.ntmps23
                    go_wp2_with (go_at_call 56; refine HCA.out.mono ?_; rintro e w' ⟨rfl, hg1⟩; obtain ⟨p, rfl⟩ := hg1.gw)
                    go_ret
                    exact ⟨ret_bool HN.out.symm, by first | exact G0.out | exact G0.out.trans (gr_gw _ _)⟩
                  | true =>
                    have HN : Hid (decide (a = b) = true) := by show _ = _; rw [decide_eq_true_eq, HQ.out]; exact ⟨h1, h2, h3, h4, h5, h6, h7, h8, h9⟩
                    rw [h6] at HCA
                    clear HQ
                    go_enter Tryz.func23, Tryz.ntmps23
                    go_wp2_with (go_at_call 56; refine HCA.out.mono ?_; rintro e w' ⟨rfl, hg1⟩; obtain ⟨p, rfl⟩ := hg1.gw)
                    go_ret
                    exact ⟨ret_bool HN.out.symm, by first | exact G0.out | exact G0.out.trans (gr_gw _ _)⟩
end Go.Proofs.YtcdcmohccbhchaaGreatDoor

/- The reference's Same: whether two commands are equal. -/
import Derived.Test.YtcdcmohccbhchaaGreatDoorKEql
namespace Go.Proofs.YtcdcmohccbhchaaGreatDoor
open Go.RowKit

theorem cm_same_iff (a b : Cm) : a = b ↔ ((a.kind == b.kind) = true ∧ (a.target == b.target) = true ∧ (a.group.toList == b.group.toList) = true ∧ (a.version == b.version) = true ∧ (a.moderated == b.moderated) = true ∧ (a.text.toList == b.text.toList) = true ∧ (a.number == b.number) = true ∧ (a.height == b.height) = true ∧ (a.root == b.root) = true ∧ a.mods = b.mods) := by
  constructor
  · rintro rfl
    simp
  · rintro ⟨h1, h2, h3, h4, h5, h6, h7, h8, h9, h10⟩
    rw [str_beq] at h3 h6
    simp only [beq_iff_eq] at h1 h2 h4 h5 h7 h8 h9
    cases a; cases b
    simp only at h1 h2 h3 h4 h5 h6 h7 h8 h9 h10
    simp only [h1, h2, h3, h4, h5, h6, h7, h8, h9, h10]
set_option maxRecDepth 100000 in
set_option maxHeartbeats 4000000 in
theorem sameC (a b : Cm) (la lb : List Aut) (ea : a.mods = la) (eb : b.mods = lb) (va vb : Value) (w : World) (ha : AutsAt w va la) (hb : AutsAt w vb lb) (hl : la.length ≤ 1000000) :
    Calls Tryz.prog 21 #[.agg (cmC a va).toArray, .agg (cmC b vb).toArray] w fun e w' => e = .returned (.bool (decide (a = b))) ∧ Gr w w' := by
  have g0 := ((Gr.refl w).alloc (.cells (cmC a va).toArray 26)).alloc (.cells (cmC b vb).toArray 26)
  have HQ := Lib.hid (cm_same_iff a b)
  rw [ea, eb] at HQ
  have G0 := Lib.hid g0
  obtain ⟨aa, ca, rfl, hca, hja⟩ := ha
  obtain ⟨ab, cb, rfl, hcb, hjb⟩ := hb
  simp only [List.length_map] at hca hcb
  have e1 : (la.map bC).length = la.length := by simp
  have e2 : (lb.map bC).length = lb.length := by simp
  rw [e1, e2]
  have HA := Lib.hid hja; have HB := Lib.hid hjb
  have HBLK := Lib.hid (And.intro (heap_alloc2_old w (.cells (cmC a (.slice aa la.length ca)).toArray 26) (.cells (cmC b (.slice ab lb.length cb)).toArray 26)) (heap_alloc2_new w (.cells (cmC a (.slice aa la.length ca)).toArray 26) (.cells (cmC b (.slice ab lb.length cb)).toArray 26)))
  have G1 := Lib.hid (((Gr.refl w).alloc (.cells (cmC a (.slice aa la.length ca)).toArray 26)).alloc (.cells (cmC b (.slice ab lb.length cb)).toArray 26))
  clear g0 G0 hja hjb e1 e2 ea eb
  cases h1 : (a.kind == b.kind) with
  | false =>
    have n1 : (a.kind != b.kind) = true := by rw [bne, h1]; rfl
    have HN : Hid (decide (a = b) = false) := by show _ = _; rw [decide_eq_false_iff_not, HQ.out]; simp [h1]
    clear HQ HA HB HBLK
    go_enter Tryz.func21, Tryz.ntmps21
    go_wp2_with fail
    go_ret
    exact ⟨ret_bool HN.out.symm, G1.out⟩
  | true =>
    have n1 : (a.kind != b.kind) = false := by rw [bne, h1]; rfl
    cases h2 : (a.target == b.target) with
    | false =>
      have n2 : (a.target != b.target) = true := by rw [bne, h2]; rfl
      have HN : Hid (decide (a = b) = false) := by show _ = _; rw [decide_eq_false_iff_not, HQ.out]; simp [h2]
      clear HQ HA HB HBLK
      go_enter Tryz.func21, Tryz.ntmps21
      go_wp2_with fail
      go_ret
      exact ⟨ret_bool HN.out.symm, G1.out⟩
    | true =>
      have n2 : (a.target != b.target) = false := by rw [bne, h2]; rfl
      cases h3 : (a.group.toList == b.group.toList) with
      | false =>
        have n3 : (a.group.toList != b.group.toList) = true := by rw [bne, h3]; rfl
        have HN : Hid (decide (a = b) = false) := by show _ = _; rw [decide_eq_false_iff_not, HQ.out]; simp [h3]
        clear HQ HA HB HBLK
        go_enter Tryz.func21, Tryz.ntmps21
        go_wp2_with fail
        go_ret
        exact ⟨ret_bool HN.out.symm, G1.out⟩
      | true =>
        have n3 : (a.group.toList != b.group.toList) = false := by rw [bne, h3]; rfl
        cases h4 : (a.version == b.version) with
        | false =>
          have n4 : (a.version != b.version) = true := by rw [bne, h4]; rfl
          have HN : Hid (decide (a = b) = false) := by show _ = _; rw [decide_eq_false_iff_not, HQ.out]; simp [h4]
          clear HQ HA HB HBLK
          go_enter Tryz.func21, Tryz.ntmps21
          go_wp2_with fail
          go_ret
          exact ⟨ret_bool HN.out.symm, G1.out⟩
        | true =>
          have n4 : (a.version != b.version) = false := by rw [bne, h4]; rfl
          cases h5 : (a.moderated == b.moderated) with
          | false =>
            have n5 : (a.moderated != b.moderated) = true := by rw [bne, h5]; rfl
            have HN : Hid (decide (a = b) = false) := by show _ = _; rw [decide_eq_false_iff_not, HQ.out]; simp [h5]
            clear HQ HA HB HBLK
            go_enter Tryz.func21, Tryz.ntmps21
            go_wp2_with fail
            go_ret
            exact ⟨ret_bool HN.out.symm, G1.out⟩
          | true =>
            have n5 : (a.moderated != b.moderated) = false := by rw [bne, h5]; rfl
            cases h6 : (a.text.toList == b.text.toList) with
            | false =>
              have n6 : (a.text.toList != b.text.toList) = true := by rw [bne, h6]; rfl
              have HN : Hid (decide (a = b) = false) := by show _ = _; rw [decide_eq_false_iff_not, HQ.out]; simp [h6]
              clear HQ HA HB HBLK
              go_enter Tryz.func21, Tryz.ntmps21
              go_wp2_with fail
              go_ret
              exact ⟨ret_bool HN.out.symm, G1.out⟩
            | true =>
              have n6 : (a.text.toList != b.text.toList) = false := by rw [bne, h6]; rfl
              cases h7 : (a.number == b.number) with
              | false =>
                have n7 : (a.number != b.number) = true := by rw [bne, h7]; rfl
                have HN : Hid (decide (a = b) = false) := by show _ = _; rw [decide_eq_false_iff_not, HQ.out]; simp [h7]
                clear HQ HA HB HBLK
                go_enter Tryz.func21, Tryz.ntmps21
                go_wp2_with fail
                go_ret
                exact ⟨ret_bool HN.out.symm, G1.out⟩
              | true =>
                have n7 : (a.number != b.number) = false := by rw [bne, h7]; rfl
                cases h8 : (a.height == b.height) with
                | false =>
                  have n8 : (a.height != b.height) = true := by rw [bne, h8]; rfl
                  have HN : Hid (decide (a = b) = false) := by show _ = _; rw [decide_eq_false_iff_not, HQ.out]; simp [h8]
                  clear HQ HA HB HBLK
                  go_enter Tryz.func21, Tryz.ntmps21
                  go_wp2_with fail
                  go_ret
                  exact ⟨ret_bool HN.out.symm, G1.out⟩
                | true =>
                  have n8 : (a.height != b.height) = false := by rw [bne, h8]; rfl
                  cases h9 : (a.root == b.root) with
                  | false =>
                    have n9 : (a.root != b.root) = true := by rw [bne, h9]; rfl
                    have HN : Hid (decide (a = b) = false) := by show _ = _; rw [decide_eq_false_iff_not, HQ.out]; simp [h9]
                    clear HQ HA HB HBLK
                    go_enter Tryz.func21, Tryz.ntmps21
                    go_wp2_with fail
                    go_ret
                    exact ⟨ret_bool HN.out.symm, G1.out⟩
                  | true =>
                    have n9 : (a.root != b.root) = false := by rw [bne, h9]; rfl
                    cases h10 : ((la.length : Int) == (lb.length : Int)) with
                    | false =>
                      have n10 : ((la.length : Int) != (lb.length : Int)) = true := by rw [bne, h10]; rfl
                      have HN : Hid (decide (a = b) = false) := by show _ = _; rw [decide_eq_false_iff_not, HQ.out]; rintro ⟨-, -, -, -, -, -, -, -, -, h⟩; rw [h] at h10; simp at h10
                      clear HQ HA HB HBLK
                      go_enter Tryz.func21, Tryz.ntmps21
                      go_wp2_with fail
                      go_ret
                      exact ⟨ret_bool HN.out.symm, G1.out⟩
                    | true =>
                      have n10 : ((la.length : Int) != (lb.length : Int)) = false := by rw [bne, h10]; rfl
                      have hlen : la.length = lb.length := by have := beq_iff_eq.1 h10; omega
                      have HL := Lib.hid hlen
                      have HDE : Hid (la = lb → decide (a = b) = true) := fun h => by rw [decide_eq_true_eq, HQ.out]; exact ⟨h1, h2, h3, h4, h5, h6, h7, h8, h9, h⟩
                      have HDN : Hid (la ≠ lb → decide (a = b) = false) := fun h => by rw [decide_eq_false_iff_not, HQ.out]; rintro ⟨-, -, -, -, -, -, -, -, -, h'⟩; exact h h'
                      have HBL : Hid (∀ k, k < la.length → k < lb.length) := fun k hk => hlen ▸ hk
                      clear HQ hlen
                      go_enter Tryz.func21, Tryz.ntmps21
                      go_wp2_with fail
                      go_loopw [5, 76, 77, 78, 79, 80, 81, 82, 83, 84, 85, 86, 87, 88, 89, 90, 91, 92, 93] (fun i _ _ _ _ _ _ _ _ _ _ _ _ _ _ _ _ _ _ wr => ∃ k : Nat, k ≤ la.length ∧ i = .int .i64 k ∧ Hid (la.take k = lb.take k) ∧ Hid (Gr w wr) ∧ Hid (wr.heap[w.heap.size]? = some (.cells (cmC a (.slice aa la.length ca)).toArray 26 (0, 0)) ∧ wr.heap[w.heap.size + 1]? = some (.cells (cmC b (.slice ab lb.length cb)).toArray 26 (0, 0)))) (fun i _ _ _ _ _ _ _ _ _ _ _ _ _ _ _ _ _ _ _ => la.length - (intOf i).toNat)
                      case atStart => exact ⟨0, Nat.zero_le _, rfl, rfl, G1.out, HBLK.out⟩
                      case round =>
                        obtain ⟨k, hk, rfl, hh, hG, hB⟩ := hrel
                        have m1 := (cell_block hB.out.1 36).trans (cm_mods a _)
                        have m2 := (cell_block hB.out.2 36).trans (cm_mods b _)
                        clear HBLK G1
                        by_cases hlt : k < la.length
                        · have hltb := HBL.out k hlt
                          obtain ⟨b1, o1, rfl, z1, p1, p2⟩ := HA.out k (by simpa using hlt)
                          obtain ⟨b2, o2, rfl, z2, p3, p4⟩ := HB.out k (by simpa using hltb)
                          have u1 := (hG.out.hasRow z1).trans p1
                          have u2 := (hG.out.rowAt z1).trans p2
                          have u3 := (hG.out.hasRow z2).trans p3
                          have u4 := (hG.out.rowAt z2).trans p4
                          rw [List.getElem_map] at u2 u4
                          have hk1 : (k : Int) < (la.length : Int) := by omega
                          have hk3 : (k : Int) < (lb.length : Int) := by omega
                          have hk2 : (0 : Int) ≤ (k : Int) := by omega
                          have y1 := Nat.lt_of_lt_of_le z1 hG.out.size
                          have y2 := Nat.lt_of_lt_of_le z2 hG.out.size
                          have HS := Lib.hid (fun e => takeEq_succ hlt hltb hh.out e)
                          have HNE : Hid (la[k] ≠ lb[k] → la ≠ lb) := fun hne e => hne (by subst e; rfl)
                          clear p1 p2 p3 p4
                          generalize la[k] = x at *
                          generalize lb[k] = y at *
                          cases hx : (x == y) with
                          | true =>
                            have HX : Hid (x = y) := by show x = y; simpa using hx
                            go_wp2_with fail
                            go_quiet (fail)
                            go_wp2_with fail
                            go_roundw
                            case rel => exact ⟨k + 1, by omega, by go_num, HS.out HX.out, hG.out.drewN _, (hB.out.1 : _), (hB.out.2 : _)⟩
                            case measure => simp [intOf]; omega
                          | false =>
                            have HX : Hid (x ≠ y) := by show x ≠ y; simpa using hx
                            go_wp2_with fail
                            go_quiet (fail)
                            go_wp2_with fail
                            go_ret
                            exact ⟨ret_bool (HDN.out (HNE.out HX.out)).symm, hG.out.drewN _⟩
                        · have hk1 : ¬ (k : Int) < (la.length : Int) := by omega
                          have HE : Hid (la = lb) := by
                            have := hh.out
                            rw [List.take_of_length_le (by omega), List.take_of_length_le (by rw [← HL.out]; omega)] at this
                            exact this
                          go_wp2_with fail
                          go_ret
                          exact ⟨ret_bool (HDE.out HE.out).symm, hG.out⟩
end Go.Proofs.YtcdcmohccbhchaaGreatDoor

/- (Definition).Check: what it returns. -/
import Derived.Test.YtemhfcfebkjioaaGreatDoorName
namespace Go.Proofs.YtemhfcfebkjioaaGreatDoor
open Go.RowKit

/-- Two equal moderators among the first k. -/
def dupTo (l : List Aut) (k : Nat) : Bool := (List.range k).any fun i => match l[i]? with | some x => hasA (l.take i) x | none => false
theorem dupTo_succ (l : List Aut) (k : Nat) (h : k < l.length) : dupTo l (k + 1) = (dupTo l k || hasA (l.take k) l[k]) := by
  unfold dupTo; rw [List.range_succ, List.any_append]; simp [h]
theorem dup_mono (l : List Aut) (k : Nat) (h : k < l.length) (hd : hasA (l.take k) l[k] = true) : dupTo l l.length = true := by
  unfold dupTo; rw [List.any_eq_true]; exact ⟨k, by simpa using h, by simp [h, hd]⟩
def verB (d : Dfn) : Bool := decide (d.version < 0) || decide (1000000 < d.version)
def remB (d : Dfn) (l : List Aut) : Bool := d.removed && (d.moderated || decide (0 < l.length) || !d.text.toList.isEmpty)
def dfnErr (d : Dfn) (l : List Aut) : Int :=
  if nameErr d.group ≠ 0 then nameErr d.group else if verB d = true then 2 else if remB d l = true then 3 else if 8 < l.length then 9 else if dupTo l l.length = true then 7 else if 200 < d.text.size then 5 else 0

theorem AutsAt.take {w : World} {a : Option Addr} {cap : Nat} {l : List Aut} (h : AutsAt w (.slice a l.length cap) l) (k : Nat) (hk : k ≤ l.length) : AutsAt w (.slice a k cap) (l.take k) := by
  obtain ⟨a', cap', hv, hc, hj⟩ := h
  injection hv with e1 e2 e3
  subst e1; subst e3
  simp only [List.length_map] at hc
  refine ⟨a, cap, by simp [hk], by simp; omega, fun j hlt => ?_⟩
  have hlt' : j < k := by simp at hlt; omega
  obtain ⟨b, o, h1, h2, h3, h4⟩ := hj j (by simp; omega)
  exact ⟨b, o, h1, h2, h3, by rw [h4]; simp⟩

/-- A region that draws, all of it quiet in the class of worlds with blocks and draws. -/
theorem wp_region_lay {P : Program} {id : Nat} {Q : Exit → Act → World → Prop} {a : Act} {w : World} {l : List Oper} (hm : P.follows .mixedOrders = true) (hB : Region.lexB .any l.toArray = true)
    (h : wpQuiet P l.toArray (fun u => ∃ p : LD, u = lw w p) (fun a' => ∀ w', (∃ p : LD, w' = lw w p) → Q .normal a' w') l a) : (Code.region id l.toArray true).wp P Q a w :=
  wp_region_quiet (C := fun u => ∃ p : LD, u = lw w p) hm hB (cl_drew w) (by simpa using h)
theorem wp_region_gr {P : Program} {id : Nat} {Q : Exit → Act → World → Prop} {a : Act} {w : World} {l : List Oper} (hm : P.follows .mixedOrders = true) (hB : Region.lexB .any l.toArray = true)
    (h : wpQuiet P l.toArray (fun u => ∃ p : GD, u = gw w p) (fun a' => ∀ w', (∃ p : GD, w' = gw w p) → Q .normal a' w') l a) : (Code.region id l.toArray true).wp P Q a w :=
  wp_region_quiet (C := fun u => ∃ p : GD, u = gw w p) hm hB (cg_drew w) (by simpa using h)

set_option maxRecDepth 100000 in
set_option maxHeartbeats 4000000 in
theorem dfnCheck (d : Dfn) (l : List Aut) (w : World) (hE : Env w) (hv : AutsAt w d.mods l) :
    Calls Tryz.prog 63 #[.agg (dfnC d).toArray] w fun e w' => e = .returned (.int .i64 (dfnErr d l)) ∧ Gr w w' := by
  have hg0 := (Gr.refl w).alloc (.cells (dfnC d).toArray 52)
  have HN := Lib.hid (checkName d.group _ (hE.gr hg0))
  have HG0 := Lib.hid hg0
  have HV := Lib.hid hv
  obtain ⟨a, cap, hmods, hcap, hj⟩ := hv
  have HJ := Lib.hid hj
  simp only [List.length_map] at hmods hcap
  clear hE hg0 hj
  generalize hW : w.alloc (.cells (dfnC d).toArray 52) = W0 at *
  have hbk : W0.heap[w.heap.size]? = some (.cells (dfnC d).toArray 52 (0, 0)) := by rw [← hW]; exact heap_alloc_new w _
  have HS0 : Hid (w.heap.size < W0.heap.size) := by show _ < _; rw [← hW]; simp
  have HBK := Lib.hid hbk
  have HW := Lib.hid hW
  clear hW hbk
  by_cases hn : nameErr d.group = 0
  · have HNE := Lib.hid hn
    have hf0 : Hid (dfnErr d l = if verB d = true then 2 else if remB d l = true then 3 else if 8 < l.length then 9 else if dupTo l l.length = true then 7 else if 200 < d.text.size then 5 else 0) := by
      show _ = _; unfold dfnErr; rw [if_neg (by simp [hn])]
    clear hn
    cases hver : verB d with
    | true =>
      have hf : Hid (dfnErr d l = 2) := by show _ = _; rw [hf0.out, if_pos hver]
      have hor : d.version < 0 ∨ ¬ d.version < 0 ∧ 1000000 < d.version := by
        unfold verB at hver
        rcases Decidable.em (d.version < 0) with h | h
        · exact .inl h
        · exact .inr ⟨h, by simpa [h] using hver⟩
      clear hver
      rcases hor with hlt | ⟨hlt, hgt⟩
      · have hd0 : decide (d.version < 0) = true := by simpa using hlt
        go_enter Tryz.func63, Tryz.ntmps63
        go_wp2_with fail
        rw [HW.out]
        refine HN.out.mono ?_
        rintro e w1 ⟨rfl, hg1⟩
        rw [HNE.out]
        have hb1 := (hg1.block HS0.out).trans HBK.out
        have c49 := (cell_block hb1 49).trans (dfn_version d)
        have c50 := (cell_block hb1 50).trans (dfn_removed d)
        have c51 := (cell_block hb1 51).trans (dfn_moderated d)
        have c52 := (cell_block hb1 52).trans (dfn_mods d)
        have c53 := (cell_block hb1 53).trans (dfn_text d)
        rw [hmods] at c52
        have HB1 := Lib.hid hb1
        have G1 := Lib.hid (HG0.out.trans hg1)
        clear hb1 hg1
        go_wp2_with fail
        go_ret
        exact ⟨ret_int hf.out.symm, G1.out⟩
      · have hd0 : decide (d.version < 0) = false := by simpa using hlt
        have hd1 : decide (1000000 < d.version) = true := by simpa using hgt
        go_enter Tryz.func63, Tryz.ntmps63
        go_wp2_with fail
        rw [HW.out]
        refine HN.out.mono ?_
        rintro e w1 ⟨rfl, hg1⟩
        rw [HNE.out]
        have hb1 := (hg1.block HS0.out).trans HBK.out
        have c49 := (cell_block hb1 49).trans (dfn_version d)
        have c50 := (cell_block hb1 50).trans (dfn_removed d)
        have c51 := (cell_block hb1 51).trans (dfn_moderated d)
        have c52 := (cell_block hb1 52).trans (dfn_mods d)
        have c53 := (cell_block hb1 53).trans (dfn_text d)
        rw [hmods] at c52
        have HB1 := Lib.hid hb1
        have G1 := Lib.hid (HG0.out.trans hg1)
        clear hb1 hg1
        go_wp2_with fail
        go_ret
        exact ⟨ret_int hf.out.symm, G1.out⟩
    | false =>
      have hd0 : decide (d.version < 0) = false := by unfold verB at hver; simp at hver ⊢; omega
      have hd1 : decide (1000000 < d.version) = false := by unfold verB at hver; simp at hver ⊢; omega
      have hf1 : Hid (dfnErr d l = if remB d l = true then 3 else if 8 < l.length then 9 else if dupTo l l.length = true then 7 else if 200 < d.text.size then 5 else 0) := by
        show _ = _; rw [hf0.out, if_neg (by rw [hver]; decide)]
      clear hver hf0
      cases hr : d.removed with
      | true =>
        have hrem : Hid (remB d l = (d.moderated || decide (0 < l.length) || !d.text.toList.isEmpty)) := by show _ = _; unfold remB; rw [hr]; rfl
        cases hm : d.moderated with
        | true =>
          have hf : Hid (dfnErr d l = 3) := by show _ = _; rw [hf1.out, if_pos (by rw [hrem.out, hm]; rfl)]
          go_enter Tryz.func63, Tryz.ntmps63
          go_wp2_with fail
          rw [HW.out]
          refine HN.out.mono ?_
          rintro e w1 ⟨rfl, hg1⟩
          rw [HNE.out]
          have hb1 := (hg1.block HS0.out).trans HBK.out
          have c49 := (cell_block hb1 49).trans (dfn_version d)
          have c50 := (cell_block hb1 50).trans (dfn_removed d)
          have c51 := (cell_block hb1 51).trans (dfn_moderated d)
          have c52 := (cell_block hb1 52).trans (dfn_mods d)
          have c53 := (cell_block hb1 53).trans (dfn_text d)
          rw [hmods] at c52
          have HB1 := Lib.hid hb1
          have G1 := Lib.hid (HG0.out.trans hg1)
          clear hb1 hg1
          go_wp2_with fail
          go_ret
          exact ⟨ret_int hf.out.symm, G1.out⟩
        | false =>
          by_cases hl0 : 0 < l.length
          · have hf : Hid (dfnErr d l = 3) := by show _ = _; rw [hf1.out, if_pos (by rw [hrem.out, hm]; simp [hl0])]
            have hdl : decide (0 < l.length) = true := by simpa using hl0
            go_enter Tryz.func63, Tryz.ntmps63
            go_wp2_with fail
            rw [HW.out]
            refine HN.out.mono ?_
            rintro e w1 ⟨rfl, hg1⟩
            rw [HNE.out]
            have hb1 := (hg1.block HS0.out).trans HBK.out
            have c49 := (cell_block hb1 49).trans (dfn_version d)
            have c50 := (cell_block hb1 50).trans (dfn_removed d)
            have c51 := (cell_block hb1 51).trans (dfn_moderated d)
            have c52 := (cell_block hb1 52).trans (dfn_mods d)
            have c53 := (cell_block hb1 53).trans (dfn_text d)
            rw [hmods] at c52
            have HB1 := Lib.hid hb1
            have G1 := Lib.hid (HG0.out.trans hg1)
            clear hb1 hg1
            go_wp2_with fail
            go_ret
            exact ⟨ret_int hf.out.symm, G1.out⟩
          · obtain rfl : l = [] := List.length_eq_zero_iff.1 (by omega)
            simp only [List.length_nil] at hmods hcap
            cases hte : d.text.toList.isEmpty with
            | true =>
              have hte2 : d.text.toList = [] := by simpa using hte
              have hz : d.text.size = 0 := by rw [← bl_length, ← bl_toList, hte2]; rfl
              have hf : Hid (dfnErr d [] = 0) := by show _ = _; rw [hf1.out, if_neg (by rw [hrem.out, hm, hte]; decide), if_neg (by decide), if_neg (by decide), if_neg (by omega)]
              have hz2 : d.text.size ≤ 200 := by omega
              clear hz hl0
              go_enter Tryz.func63, Tryz.ntmps63
              go_wp2_with fail
              rw [HW.out]
              refine HN.out.mono ?_
              rintro e w1 ⟨rfl, hg1⟩
              rw [HNE.out]
              have hb1 := (hg1.block HS0.out).trans HBK.out
              have c49 := (cell_block hb1 49).trans (dfn_version d)
              have c50 := (cell_block hb1 50).trans (dfn_removed d)
              have c51 := (cell_block hb1 51).trans (dfn_moderated d)
              have c52 := (cell_block hb1 52).trans (dfn_mods d)
              have c53 := (cell_block hb1 53).trans (dfn_text d)
              rw [hmods] at c52
              have HB1 := Lib.hid hb1
              have G1 := Lib.hid (HG0.out.trans hg1)
              clear hb1 hg1
              go_wp2_with fail
              refine wp_loop_rounds 1 ?_
              rw [rounds_succ]
              go_wp2_with fail
              go_ret
              exact ⟨ret_int hf.out.symm, G1.out⟩
            | false =>
              have hte2 : ¬ d.text.toList = [] := by intro h; rw [h] at hte; cases hte
              have hf : Hid (dfnErr d [] = 3) := by show _ = _; rw [hf1.out, if_pos (by rw [hrem.out, hm, hte]; rfl)]
              clear hl0
              go_enter Tryz.func63, Tryz.ntmps63
              go_wp2_with fail
              rw [HW.out]
              refine HN.out.mono ?_
              rintro e w1 ⟨rfl, hg1⟩
              rw [HNE.out]
              have hb1 := (hg1.block HS0.out).trans HBK.out
              have c49 := (cell_block hb1 49).trans (dfn_version d)
              have c50 := (cell_block hb1 50).trans (dfn_removed d)
              have c51 := (cell_block hb1 51).trans (dfn_moderated d)
              have c52 := (cell_block hb1 52).trans (dfn_mods d)
              have c53 := (cell_block hb1 53).trans (dfn_text d)
              rw [hmods] at c52
              have HB1 := Lib.hid hb1
              have G1 := Lib.hid (HG0.out.trans hg1)
              clear hb1 hg1
              go_wp2_with fail
              go_ret
              exact ⟨ret_int hf.out.symm, G1.out⟩
      | false =>
        have hf2 : Hid (dfnErr d l = if 8 < l.length then 9 else if dupTo l l.length = true then 7 else if 200 < d.text.size then 5 else 0) := by
          show _ = _; rw [hf1.out, if_neg (by unfold remB; rw [hr]; simp)]
        clear hf1
        by_cases h8 : 8 < l.length
        · have hf : Hid (dfnErr d l = 9) := by show _ = _; rw [hf2.out, if_pos h8]
          go_enter Tryz.func63, Tryz.ntmps63
          go_wp2_with fail
          rw [HW.out]
          refine HN.out.mono ?_
          rintro e w1 ⟨rfl, hg1⟩
          rw [HNE.out]
          have hb1 := (hg1.block HS0.out).trans HBK.out
          have c49 := (cell_block hb1 49).trans (dfn_version d)
          have c50 := (cell_block hb1 50).trans (dfn_removed d)
          have c51 := (cell_block hb1 51).trans (dfn_moderated d)
          have c52 := (cell_block hb1 52).trans (dfn_mods d)
          have c53 := (cell_block hb1 53).trans (dfn_text d)
          rw [hmods] at c52
          have HB1 := Lib.hid hb1
          have G1 := Lib.hid (HG0.out.trans hg1)
          clear hb1 hg1
          go_wp2_with fail
          go_ret
          exact ⟨ret_int hf.out.symm, G1.out⟩
        · have hf3 : Hid (dfnErr d l = if dupTo l l.length = true then 7 else if 200 < d.text.size then 5 else 0) := by show _ = _; rw [hf2.out, if_neg h8]
          clear hf2
          have hl8 : l.length ≤ 8 := by omega
          go_enter Tryz.func63, Tryz.ntmps63
          go_wp2_with fail
          rw [HW.out]
          refine HN.out.mono ?_
          rintro e w1 ⟨rfl, hg1⟩
          rw [HNE.out]
          have hb1 := (hg1.block HS0.out).trans HBK.out
          have c49 := (cell_block hb1 49).trans (dfn_version d)
          have c50 := (cell_block hb1 50).trans (dfn_removed d)
          have c51 := (cell_block hb1 51).trans (dfn_moderated d)
          have c52 := (cell_block hb1 52).trans (dfn_mods d)
          have c53 := (cell_block hb1 53).trans (dfn_text d)
          rw [hmods] at c52
          have HB1 := Lib.hid hb1
          have G1 := Lib.hid (HG0.out.trans hg1)
          clear hb1 hg1
          go_wp2_with fail
          clear c49 c50 c51 c52 c53 hd0 hd1 hr
          go_loopw [4, 5, 47, 49, 50, 51, 52, 53, 54, 55, 56, 57] (fun _ _ i _ _ _ _ _ _ _ _ _ wr => ∃ k : Nat, k ≤ l.length ∧ i = .int .i64 k ∧ Hid (dupTo l k = false) ∧ Hid (Gr w wr) ∧ Hid (wr.heap[w.heap.size]? = some (.cells (dfnC d).toArray 52 (0, 0)))) (fun _ _ i _ _ _ _ _ _ _ _ _ _ => l.length - (intOf i).toNat)
          case atStart => exact ⟨0, Nat.zero_le _, rfl, rfl, G1.out, HB1.out⟩
          case round =>
            obtain ⟨k, hk, rfl, hdup, hG, hB⟩ := hrel
            by_cases hlt : k < l.length
            · obtain ⟨b, o, rfl, hb, q1, q2⟩ := HJ.out k (by simpa using hlt)
              have HDS := Lib.hid (dupTo_succ l k hlt)
              have HDM : Hid (hasA (l.take k) l[k] = true → dupTo l l.length = true) := fun h => dup_mono l k hlt h
              have e1 : hasRow wr ⟨b, o + k * 16, none⟩ 16 = true := (hG.out.hasRow hb).trans q1
              have e2 : rowAt wr ⟨b, o + k * 16, none⟩ 16 = bC l[k] := by rw [hG.out.rowAt hb, q2]; simp
              clear q1 q2
              have hc52 : wr.cell? ⟨w.heap.size, 52, none⟩ = some (.slice (some ⟨b, o, none⟩) l.length cap) := by rw [cell_block hB.out 52, dfn_mods, hmods]
              have hsz : w.heap.size < wr.heap.size := (Array.getElem?_eq_some_iff.1 hB.out).1
              have hAu : Hid (∀ W, Gr wr W → AutsAt W (.slice (some ⟨b, o, none⟩) k cap) (l.take k)) := fun W hg => by
                have := HV.out; rw [hmods] at this
                exact (this.take k hk).gr (hG.out.trans hg)
              have hkc : (k : Int) ≤ (cap : Int) := by omega
              have hk0 : (0 : Int) ≤ (k : Int) := by omega
              generalize l[k] = x at *
              have hbx := heap_alloc_new wr (.cells (bC x).toArray 25)
              have hgx := Lib.hid ((Gr.refl wr).alloc (.cells (bC x).toArray 25))
              have hBx := Lib.hid ((hgx.out.block hsz).trans hB.out)
              have f1 := (hgx.out.cell (p := ⟨w.heap.size, 52, none⟩) hsz).trans hc52
              have hzx : wr.heap.size < (wr.alloc (.cells (bC x).toArray 25)).heap.size := by simp
              have hzy : w.heap.size < (wr.alloc (.cells (bC x).toArray 25)).heap.size := by simp; omega
              have f2 := hasRow_block (cs := bC x) hbx 0 16 (by rw [bC_length]; decide)
              have f3 := (rowAt_block (cs := bC x) hbx 0 16 (by rw [bC_length]; decide)).trans (rowOf_all _ _ (bC_length x))
              clear hbx
              go_wp2_with fail
              generalize wr.alloc (.cells (bC x).toArray 25) = W1 at *
              refine wp_region_lay (by kernel_rfl) (by kernel_rfl) ?_
              repeat (go_big_quiet_step ((go_at_call 69; exact lay_call (containsA (l.take k) _ x _ (hAu.out _ (hgx.out.trans (lay_lw W1 _).1)) (by simp; omega)))))
              refine wpQuiet_nil ?_
              rintro _ ⟨p, rfl⟩
              have hp := Lib.hid (hgx.out.trans (lay_lw W1 p).1)
              have hBp : Hid ((lw W1 p).heap[w.heap.size]? = some (.cells (dfnC d).toArray 52 (0, 0))) := ((lay_lw W1 p).1.block hzy).trans hBx.out
              generalize lw W1 p = U at *
              clear f1 f2 f3 hzx hzy hBx e1 e2 hc52 hgx
              cases hx : hasA (l.take k) x with
              | true =>
                have HX := Lib.hid hx
                clear hx
                go_wp2_with fail
                go_ret
                exact ⟨ret_int (by rw [hf3.out, if_pos (HDM.out HX.out)]), hG.out.trans hp.out⟩
              | false =>
                have HX := Lib.hid hx
                clear hx
                go_wp2_with fail
                go_roundw
                case rel => exact ⟨k + 1, by omega, by go_num, by show _ = _; rw [HDS.out, hdup.out, HX.out]; rfl, hG.out.trans hp.out, hBp.out⟩
                case measure => simp [intOf]; omega
            · have hkl : k = l.length := by omega
              have hnd : Hid (dupTo l l.length = false) := by show _ = _; rw [← hkl]; exact hdup.out
              have c53 := (cell_block hB.out 53).trans (dfn_text d)
              clear hkl
              by_cases ht : 200 < d.text.size
              · have hf : Hid (dfnErr d l = 5) := by show _ = _; rw [hf3.out, if_neg (by rw [hnd.out]; decide), if_pos ht]
                go_wp2_with fail
                go_ret
                exact ⟨ret_int hf.out.symm, hG.out⟩
              · have hf : Hid (dfnErr d l = 0) := by show _ = _; rw [hf3.out, if_neg (by rw [hnd.out]; decide), if_neg ht]
                go_wp2_with fail
                go_ret
                exact ⟨ret_int hf.out.symm, hG.out⟩
  · have hB : (nameErr d.group != 0) = true := by simp [hn]
    have hf : Hid (dfnErr d l = nameErr d.group) := by show _ = _; unfold dfnErr; rw [if_pos hn]
    clear hn
    generalize nameErr d.group = ne at *
    go_enter Tryz.func63, Tryz.ntmps63
    go_wp2_with fail
    rw [HW.out]
    refine HN.out.mono ?_
    rintro e w1 ⟨rfl, hg1⟩
    go_wp2_with fail
    go_ret
    exact ⟨ret_int hf.out.symm, HG0.out.trans hg1⟩
end Go.Proofs.YtemhfcfebkjioaaGreatDoor

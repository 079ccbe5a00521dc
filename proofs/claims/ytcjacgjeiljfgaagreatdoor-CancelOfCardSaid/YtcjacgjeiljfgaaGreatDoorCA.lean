/- The key of an identity in a map. (Definition).Check: what it returns. The closure of EverModerator; registry.clone. slices.SortFunc at definitions, at most twelve: it returns; of what was there before the slice's memory nothing turns. The registry's definitions as a map; pick and EverModerator. EverModerator, cancel.Counts and the statement's own counts: what each returns. slices.MinFunc at cancellations. cancel.By: what it returns. -/
import Derived.Test.YtcjacgjeiljfgaaGreatDoorBA
import Derived.Maps.RangeWalk
import Derived.Maps.OwnSet
import Derived.DeepKeys4
import Derived.Test.YtcjacgjeiljfgaaGreatDoorShelf
namespace Go.Proofs.YtcjacgjeiljfgaaGreatDoor
open Go.RowKit
open Go.Maps (Keyed)

/-! ### keys -/
theorem laidOutL : laidOutB Tryz.prog = true := by kernel_rfl
theorem kId : Keyed Tryz.prog 23 := Keyed.of_law (deep_law_laid laidOutL (m := 2) (by omega) (of_decide_eq_true (by kernel_rfl)) (by kernel_rfl) (by kernel_rfl))
theorem mapM_some {α β : Type} (f : α → Option β) : ∀ (L : List α), (∀ i ∈ L, ∃ y, f i = some y) → ∃ ys, L.mapM f = some ys
  | [], _ => ⟨[], rfl⟩
  | a :: L, h => by
    obtain ⟨y, hy⟩ := h a (by simp)
    obtain ⟨ys, hys⟩ := mapM_some f L (fun i hi => h i (by simp [hi]))
    exact ⟨y :: ys, by simp [List.mapM_cons, hy, hys]⟩
theorem keyLits_byte (d : Nat) (b : UInt8) : Tryz.prog.keyLits (d + 1) 5 [.int .u8 (b.toNat : Int)] = some [.int .u8 (b.toNat : Int)] := by
  have hw : (Lit.int .u8 (b.toNat : Int)).wf = true := by
    have := b.toNat_lt
    simp [Lit.wf, IntKind.min, IntKind.max, IntKind.bits, IntKind.signed]
    omega
  simp [Program.keyLits, Tryz.underlying5, hw]
theorem keyId (x : Id) : ∃ l, keyOf Tryz.prog 23 (.agg (bC x).toArray) = some l := by
  obtain ⟨d, hd⟩ : ∃ d, Tryz.prog.types.size = d + 1 := Nat.exists_eq_succ_of_ne_zero (by decide +kernel)
  have hk : Tryz.prog.keyType 23 = true := by kernel_rfl
  have hf : (Value.agg (bC x).toArray).formed Tryz.prog 23 = true := by simp [Value.formed, Tryz.underlying23, cellsId, bC_length]
  obtain ⟨ys, hys⟩ := mapM_some (fun i => Tryz.prog.keyLits (d + 1) 5 (((bC x).drop (i * Tryz.prog.cellsOf 5)).take (Tryz.prog.cellsOf 5))) (List.range 32) (fun i hi => by
    have hi' : i < 32 := by simpa using hi
    rw [cellsByte, Nat.mul_one, List.drop_eq_getElem_cons (by rw [bC_length]; exact hi')]
    simp only [bC, List.getElem_map, List.take_succ_cons, List.take_zero]
    exact ⟨_, keyLits_byte d _⟩)
  have hl : Tryz.prog.keyLits (Tryz.prog.types.size + 1) 23 (bC x) = some ys.flatten := by
    rw [hd]
    simp only [Program.keyLits, Tryz.underlying23]
    rw [if_pos (by rw [bC_length, cellsId])]
    simp only [Program.keyLits, Tryz.underlying5] at hys ⊢
    rw [hys]; rfl
  refine ⟨.string (keyBytes ys.flatten), ?_⟩
  unfold keyOf
  rw [Tryz.underlying23]
  simp only [hk, hf, Bool.and_self, if_true, Value.cells, List.toList_toArray, hl, Option.map_some]
/-- The key of an identity. -/
noncomputable def kl (x : Id) : Lit := Classical.choose (keyId x)
theorem kl_spec (x : Id) : keyOf Tryz.prog 23 (.agg (bC x).toArray) = some (kl x) := Classical.choose_spec (keyId x)
theorem kl_inj {x y : Id} (h : kl x = kl y) : x = y := by
  have h1 := kl_spec x
  rw [h] at h1
  have := kId.inj h1 (kl_spec y)
  exact bC_inj (List.toArray_inj (Value.agg.inj this))
theorem kl_key (x : Id) : WideAt.IsKeyLit (kl x) := kId.key (kl_spec x)
end Go.Proofs.YtcjacgjeiljfgaaGreatDoor

namespace Go.Proofs.YtcjacgjeiljfgaaGreatDoor
open Go.RowKit

/-- Two equal moderators among the first k. -/
def dupTo (l : List Aut) (k : Nat) : Bool := (List.range k).any fun i => match l[i]? with | some x => hasA (l.take i) x | none => false
theorem dupTo_succ (l : List Aut) (k : Nat) (h : k < l.length) : dupTo l (k + 1) = (dupTo l k || hasA (l.take k) l[k]) := by
  unfold dupTo; rw [List.range_succ, List.any_append]; simp [h]
theorem dup_mono (l : List Aut) (k : Nat) (h : k < l.length) (hd : hasA (l.take k) l[k] = true) : dupTo l l.length = true := by
  unfold dupTo; rw [List.any_eq_true]; exact ⟨k, by simpa using h, by simp [h, hd]⟩
def verB (d : Dfn) : Bool := decide (d.version < 0) || decide (1000000 < d.version)
def remB (d : Dfn) (l : List Aut) : Bool := d.removed && (d.moderated || decide (0 < l.length) || !d.text.toList.isEmpty)
def dfnErr (d : Dfn) (l : List Aut) : Int :=
  if nameErr d.group ≠ 0 then nameErr d.group else if verB d = true then 2 else if remB d l = true then 3 else if 8 < l.length then 9 else if dupTo l l.length = true then 7 else if 200 < d.text.size then 5 else 0

theorem AutsAt.take {w : World} {a : Option Addr} {cap : Nat} {l : List Aut} (h : AutsAt w (.slice a l.length cap) l) (k : Nat) (hk : k ≤ l.length) : AutsAt w (.slice a k cap) (l.take k) := by
  obtain ⟨a', cap', hv, hc, hj⟩ := h
  injection hv with e1 e2 e3
  subst e1; subst e3
  simp only [List.length_map] at hc
  refine ⟨a, cap, by simp [hk], by simp; omega, fun j hlt => ?_⟩
  have hlt' : j < k := by simp at hlt; omega
  obtain ⟨b, o, h1, h2, h3, h4⟩ := hj j (by simp; omega)
  exact ⟨b, o, h1, h2, h3, by rw [h4]; simp⟩

/-- A region that draws, all of it quiet in the class of worlds with blocks and draws. -/
theorem wp_region_lay {P : Program} {id : Nat} {Q : Exit → Act → World → Prop} {a : Act} {w : World} {l : List Oper} (hm : P.follows .mixedOrders = true) (hB : Region.lexB .any l.toArray = true)
    (h : wpQuiet P l.toArray (fun u => ∃ p : LD, u = lw w p) (fun a' => ∀ w', (∃ p : LD, w' = lw w p) → Q .normal a' w') l a) : (Code.region id l.toArray true).wp P Q a w :=
  wp_region_quiet (C := fun u => ∃ p : LD, u = lw w p) hm hB (cl_drew w) (by simpa using h)
theorem wp_region_grL {P : Program} {id : Nat} {Q : Exit → Act → World → Prop} {a : Act} {w : World} {l : List Oper} (hm : P.follows .mixedOrders = true) (hB : Region.lexB .any l.toArray = true)
    (h : wpQuiet P l.toArray (fun u => ∃ p : GD, u = gw w p) (fun a' => ∀ w', (∃ p : GD, w' = gw w p) → Q .normal a' w') l a) : (Code.region id l.toArray true).wp P Q a w :=
  wp_region_quiet (C := fun u => ∃ p : GD, u = gw w p) hm hB (cg_drew w) (by simpa using h)

set_option maxRecDepth 100000 in
set_option maxHeartbeats 4000000 in
theorem dfnCheck (d : Dfn) (l : List Aut) (w : World) (hE : Env w) (hv : AutsAt w d.mods l) :
    Calls Tryz.prog 59 #[.agg (dfnC d).toArray] w fun e w' => e = .returned (.int .i64 (dfnErr d l)) ∧ Gr w w' := by
  have hg0 := (Gr.refl w).alloc (.cells (dfnC d).toArray 49)
  have HN := Lib.hid (checkName d.group _ (hE.gr hg0))
  have HG0 := Lib.hid hg0
  have HV := Lib.hid hv
  obtain ⟨a, cap, hmods, hcap, hj⟩ := hv
  have HJ := Lib.hid hj
  simp only [List.length_map] at hmods hcap
  clear hE hg0 hj
  generalize hW : w.alloc (.cells (dfnC d).toArray 49) = W0 at *
  have hbk : W0.heap[w.heap.size]? = some (.cells (dfnC d).toArray 49 (0, 0)) := by rw [← hW]; exact heap_alloc_new w _
  have HS0 : Hid (w.heap.size < W0.heap.size) := by show _ < _; rw [← hW]; simp
  have HBK := Lib.hid hbk
  have HW := Lib.hid hW
  clear hW hbk
  by_cases hn : nameErr d.group = 0
  · have HNE := Lib.hid hn
    have hf0 : Hid (dfnErr d l = if verB d = true then 2 else if remB d l = true then 3 else if 8 < l.length then 9 else if dupTo l l.length = true then 7 else if 200 < d.text.size then 5 else 0) := by
      show _ = _; unfold dfnErr; rw [if_neg (by simp [hn])]
    clear hn
    cases hver : verB d with
    | true =>
      have hf : Hid (dfnErr d l = 2) := by show _ = _; rw [hf0.out, if_pos hver]
      have hor : d.version < 0 ∨ ¬ d.version < 0 ∧ 1000000 < d.version := by
        unfold verB at hver
        rcases Decidable.em (d.version < 0) with h | h
        · exact .inl h
        · exact .inr ⟨h, by simpa [h] using hver⟩
      clear hver
      rcases hor with hlt | ⟨hlt, hgt⟩
      · have hd0 : decide (d.version < 0) = true := by simpa using hlt
        go_enter Tryz.func59, Tryz.ntmps59
        go_wp2_with fail
        rw [HW.out]
        refine HN.out.mono ?_
        rintro e w1 ⟨rfl, hg1⟩
        rw [HNE.out]
        have hb1 := (hg1.block HS0.out).trans HBK.out
        have c49 := (cell_block hb1 49).trans (dfn_version d)
        have c50 := (cell_block hb1 50).trans (dfn_removed d)
        have c51 := (cell_block hb1 51).trans (dfn_moderated d)
        have c52 := (cell_block hb1 52).trans (dfn_mods d)
        have c53 := (cell_block hb1 53).trans (dfn_text d)
        rw [hmods] at c52
        have HB1 := Lib.hid hb1
        have G1 := Lib.hid (HG0.out.trans hg1)
        clear hb1 hg1
        go_wp2_with fail
        go_ret
        exact ⟨ret_int hf.out.symm, G1.out⟩
      · have hd0 : decide (d.version < 0) = false := by simpa using hlt
        have hd1 : decide (1000000 < d.version) = true := by simpa using hgt
        go_enter Tryz.func59, Tryz.ntmps59
        go_wp2_with fail
        rw [HW.out]
        refine HN.out.mono ?_
        rintro e w1 ⟨rfl, hg1⟩
        rw [HNE.out]
        have hb1 := (hg1.block HS0.out).trans HBK.out
        have c49 := (cell_block hb1 49).trans (dfn_version d)
        have c50 := (cell_block hb1 50).trans (dfn_removed d)
        have c51 := (cell_block hb1 51).trans (dfn_moderated d)
        have c52 := (cell_block hb1 52).trans (dfn_mods d)
        have c53 := (cell_block hb1 53).trans (dfn_text d)
        rw [hmods] at c52
        have HB1 := Lib.hid hb1
        have G1 := Lib.hid (HG0.out.trans hg1)
        clear hb1 hg1
        go_wp2_with fail
        go_ret
        exact ⟨ret_int hf.out.symm, G1.out⟩
    | false =>
      have hd0 : decide (d.version < 0) = false := by unfold verB at hver; simp at hver ⊢; omega
      have hd1 : decide (1000000 < d.version) = false := by unfold verB at hver; simp at hver ⊢; omega
      have hf1 : Hid (dfnErr d l = if remB d l = true then 3 else if 8 < l.length then 9 else if dupTo l l.length = true then 7 else if 200 < d.text.size then 5 else 0) := by
        show _ = _; rw [hf0.out, if_neg (by rw [hver]; decide)]
      clear hver hf0
      cases hr : d.removed with
      | true =>
        have hrem : Hid (remB d l = (d.moderated || decide (0 < l.length) || !d.text.toList.isEmpty)) := by show _ = _; unfold remB; rw [hr]; rfl
        cases hm : d.moderated with
        | true =>
          have hf : Hid (dfnErr d l = 3) := by show _ = _; rw [hf1.out, if_pos (by rw [hrem.out, hm]; rfl)]
          go_enter Tryz.func59, Tryz.ntmps59
          go_wp2_with fail
          rw [HW.out]
          refine HN.out.mono ?_
          rintro e w1 ⟨rfl, hg1⟩
          rw [HNE.out]
          have hb1 := (hg1.block HS0.out).trans HBK.out
          have c49 := (cell_block hb1 49).trans (dfn_version d)
          have c50 := (cell_block hb1 50).trans (dfn_removed d)
          have c51 := (cell_block hb1 51).trans (dfn_moderated d)
          have c52 := (cell_block hb1 52).trans (dfn_mods d)
          have c53 := (cell_block hb1 53).trans (dfn_text d)
          rw [hmods] at c52
          have HB1 := Lib.hid hb1
          have G1 := Lib.hid (HG0.out.trans hg1)
          clear hb1 hg1
          go_wp2_with fail
          go_ret
          exact ⟨ret_int hf.out.symm, G1.out⟩
        | false =>
          by_cases hl0 : 0 < l.length
          · have hf : Hid (dfnErr d l = 3) := by show _ = _; rw [hf1.out, if_pos (by rw [hrem.out, hm]; simp [hl0])]
            have hdl : decide (0 < l.length) = true := by simpa using hl0
            go_enter Tryz.func59, Tryz.ntmps59
            go_wp2_with fail
            rw [HW.out]
            refine HN.out.mono ?_
            rintro e w1 ⟨rfl, hg1⟩
            rw [HNE.out]
            have hb1 := (hg1.block HS0.out).trans HBK.out
            have c49 := (cell_block hb1 49).trans (dfn_version d)
            have c50 := (cell_block hb1 50).trans (dfn_removed d)
            have c51 := (cell_block hb1 51).trans (dfn_moderated d)
            have c52 := (cell_block hb1 52).trans (dfn_mods d)
            have c53 := (cell_block hb1 53).trans (dfn_text d)
            rw [hmods] at c52
            have HB1 := Lib.hid hb1
            have G1 := Lib.hid (HG0.out.trans hg1)
            clear hb1 hg1
            go_wp2_with fail
            go_ret
            exact ⟨ret_int hf.out.symm, G1.out⟩
          · obtain rfl : l = [] := List.length_eq_zero_iff.1 (by omega)
            simp only [List.length_nil] at hmods hcap
            cases hte : d.text.toList.isEmpty with
            | true =>
              have hte2 : d.text.toList = [] := by simpa using hte
              have hz : d.text.size = 0 := by rw [← bl_length, ← bl_toList, hte2]; rfl
              have hf : Hid (dfnErr d [] = 0) := by show _ = _; rw [hf1.out, if_neg (by rw [hrem.out, hm, hte]; decide), if_neg (by decide), if_neg (by decide), if_neg (by omega)]
              have hz2 : d.text.size ≤ 200 := by omega
              clear hz hl0
              go_enter Tryz.func59, Tryz.ntmps59
              go_wp2_with fail
              rw [HW.out]
              refine HN.out.mono ?_
              rintro e w1 ⟨rfl, hg1⟩
              rw [HNE.out]
              have hb1 := (hg1.block HS0.out).trans HBK.out
              have c49 := (cell_block hb1 49).trans (dfn_version d)
              have c50 := (cell_block hb1 50).trans (dfn_removed d)
              have c51 := (cell_block hb1 51).trans (dfn_moderated d)
              have c52 := (cell_block hb1 52).trans (dfn_mods d)
              have c53 := (cell_block hb1 53).trans (dfn_text d)
              rw [hmods] at c52
              have HB1 := Lib.hid hb1
              have G1 := Lib.hid (HG0.out.trans hg1)
              clear hb1 hg1
              go_wp2_with fail
              refine wp_loop_rounds 1 ?_
              rw [rounds_succ]
              go_wp2_with fail
              go_ret
              exact ⟨ret_int hf.out.symm, G1.out⟩
            | false =>
              have hte2 : ¬ d.text.toList = [] := by intro h; rw [h] at hte; cases hte
              have hf : Hid (dfnErr d [] = 3) := by show _ = _; rw [hf1.out, if_pos (by rw [hrem.out, hm, hte]; rfl)]
              clear hl0
              go_enter Tryz.func59, Tryz.ntmps59
              go_wp2_with fail
              rw [HW.out]
              refine HN.out.mono ?_
              rintro e w1 ⟨rfl, hg1⟩
              rw [HNE.out]
              have hb1 := (hg1.block HS0.out).trans HBK.out
              have c49 := (cell_block hb1 49).trans (dfn_version d)
              have c50 := (cell_block hb1 50).trans (dfn_removed d)
              have c51 := (cell_block hb1 51).trans (dfn_moderated d)
              have c52 := (cell_block hb1 52).trans (dfn_mods d)
              have c53 := (cell_block hb1 53).trans (dfn_text d)
              rw [hmods] at c52
              have HB1 := Lib.hid hb1
              have G1 := Lib.hid (HG0.out.trans hg1)
              clear hb1 hg1
              go_wp2_with fail
              go_ret
              exact ⟨ret_int hf.out.symm, G1.out⟩
      | false =>
        have hf2 : Hid (dfnErr d l = if 8 < l.length then 9 else if dupTo l l.length = true then 7 else if 200 < d.text.size then 5 else 0) := by
          show _ = _; rw [hf1.out, if_neg (by unfold remB; rw [hr]; simp)]
        clear hf1
        by_cases h8 : 8 < l.length
        · have hf : Hid (dfnErr d l = 9) := by show _ = _; rw [hf2.out, if_pos h8]
          go_enter Tryz.func59, Tryz.ntmps59
          go_wp2_with fail
          rw [HW.out]
          refine HN.out.mono ?_
          rintro e w1 ⟨rfl, hg1⟩
          rw [HNE.out]
          have hb1 := (hg1.block HS0.out).trans HBK.out
          have c49 := (cell_block hb1 49).trans (dfn_version d)
          have c50 := (cell_block hb1 50).trans (dfn_removed d)
          have c51 := (cell_block hb1 51).trans (dfn_moderated d)
          have c52 := (cell_block hb1 52).trans (dfn_mods d)
          have c53 := (cell_block hb1 53).trans (dfn_text d)
          rw [hmods] at c52
          have HB1 := Lib.hid hb1
          have G1 := Lib.hid (HG0.out.trans hg1)
          clear hb1 hg1
          go_wp2_with fail
          go_ret
          exact ⟨ret_int hf.out.symm, G1.out⟩
        · have hf3 : Hid (dfnErr d l = if dupTo l l.length = true then 7 else if 200 < d.text.size then 5 else 0) := by show _ = _; rw [hf2.out, if_neg h8]
          clear hf2
          have hl8 : l.length ≤ 8 := by omega
          go_enter Tryz.func59, Tryz.ntmps59
          go_wp2_with fail
          rw [HW.out]
          refine HN.out.mono ?_
          rintro e w1 ⟨rfl, hg1⟩
          rw [HNE.out]
          have hb1 := (hg1.block HS0.out).trans HBK.out
          have c49 := (cell_block hb1 49).trans (dfn_version d)
          have c50 := (cell_block hb1 50).trans (dfn_removed d)
          have c51 := (cell_block hb1 51).trans (dfn_moderated d)
          have c52 := (cell_block hb1 52).trans (dfn_mods d)
          have c53 := (cell_block hb1 53).trans (dfn_text d)
          rw [hmods] at c52
          have HB1 := Lib.hid hb1
          have G1 := Lib.hid (HG0.out.trans hg1)
          clear hb1 hg1
          go_wp2_with fail
          clear c49 c50 c51 c52 c53 hd0 hd1 hr
          go_loopw [4, 5, 47, 49, 50, 51, 52, 53, 54, 55, 56, 57] (fun _ _ i _ _ _ _ _ _ _ _ _ wr => ∃ k : Nat, k ≤ l.length ∧ i = .int .i64 k ∧ Hid (dupTo l k = false) ∧ Hid (Gr w wr) ∧ Hid (wr.heap[w.heap.size]? = some (.cells (dfnC d).toArray 49 (0, 0)))) (fun _ _ i _ _ _ _ _ _ _ _ _ _ => l.length - (intOf i).toNat)
          case atStart => exact ⟨0, Nat.zero_le _, rfl, rfl, G1.out, HB1.out⟩
          case round =>
            obtain ⟨k, hk, rfl, hdup, hG, hB⟩ := hrel
            by_cases hlt : k < l.length
            · obtain ⟨b, o, rfl, hb, q1, q2⟩ := HJ.out k (by simpa using hlt)
              have HDS := Lib.hid (dupTo_succ l k hlt)
              have HDM : Hid (hasA (l.take k) l[k] = true → dupTo l l.length = true) := fun h => dup_mono l k hlt h
              have e1 : hasRow wr ⟨b, o + k * 16, none⟩ 16 = true := (hG.out.hasRow hb).trans q1
              have e2 : rowAt wr ⟨b, o + k * 16, none⟩ 16 = bC l[k] := by rw [hG.out.rowAt hb, q2]; simp
              clear q1 q2
              have hc52 : wr.cell? ⟨w.heap.size, 52, none⟩ = some (.slice (some ⟨b, o, none⟩) l.length cap) := by rw [cell_block hB.out 52, dfn_mods, hmods]
              have hsz : w.heap.size < wr.heap.size := (Array.getElem?_eq_some_iff.1 hB.out).1
              have hAu : Hid (∀ W, Gr wr W → AutsAt W (.slice (some ⟨b, o, none⟩) k cap) (l.take k)) := fun W hg => by
                have := HV.out; rw [hmods] at this
                exact (this.take k hk).gr (hG.out.trans hg)
              have hkc : (k : Int) ≤ (cap : Int) := by omega
              have hk0 : (0 : Int) ≤ (k : Int) := by omega
              generalize l[k] = x at *
              have hbx := heap_alloc_new wr (.cells (bC x).toArray 25)
              have hgx := Lib.hid ((Gr.refl wr).alloc (.cells (bC x).toArray 25))
              have hBx := Lib.hid ((hgx.out.block hsz).trans hB.out)
              have f1 := (hgx.out.cell (p := ⟨w.heap.size, 52, none⟩) hsz).trans hc52
              have hzx : wr.heap.size < (wr.alloc (.cells (bC x).toArray 25)).heap.size := by simp
              have hzy : w.heap.size < (wr.alloc (.cells (bC x).toArray 25)).heap.size := by simp; omega
              have f2 := hasRow_block (cs := bC x) hbx 0 16 (by rw [bC_length]; decide)
              have f3 := (rowAt_block (cs := bC x) hbx 0 16 (by rw [bC_length]; decide)).trans (rowOf_all _ _ (bC_length x))
              clear hbx
              go_wp2_with fail
              generalize wr.alloc (.cells (bC x).toArray 25) = W1 at *
              refine wp_region_lay (by kernel_rfl) (by kernel_rfl) ?_
              repeat (go_big_quiet_step ((go_at_call 67; exact lay_call (containsA (l.take k) _ x _ (hAu.out _ (hgx.out.trans (lay_lw W1 _).1)) (by simp; omega)))))
              refine wpQuiet_nil ?_
              rintro _ ⟨p, rfl⟩
              have hp := Lib.hid (hgx.out.trans (lay_lw W1 p).1)
              have hBp : Hid ((lw W1 p).heap[w.heap.size]? = some (.cells (dfnC d).toArray 49 (0, 0))) := ((lay_lw W1 p).1.block hzy).trans hBx.out
              generalize lw W1 p = U at *
              clear f1 f2 f3 hzx hzy hBx e1 e2 hc52 hgx
              cases hx : hasA (l.take k) x with
              | true =>
                have HX := Lib.hid hx
                clear hx
                go_wp2_with fail
                go_ret
                exact ⟨ret_int (by rw [hf3.out, if_pos (HDM.out HX.out)]), hG.out.trans hp.out⟩
              | false =>
                have HX := Lib.hid hx
                clear hx
                go_wp2_with fail
                go_roundw
                case rel => exact ⟨k + 1, by omega, by go_num, by show _ = _; rw [HDS.out, hdup.out, HX.out]; rfl, hG.out.trans hp.out, hBp.out⟩
                case measure => simp [intOf]; omega
            · have hkl : k = l.length := by omega
              have hnd : Hid (dupTo l l.length = false) := by show _ = _; rw [← hkl]; exact hdup.out
              have c53 := (cell_block hB.out 53).trans (dfn_text d)
              clear hkl
              by_cases ht : 200 < d.text.size
              · have hf : Hid (dfnErr d l = 5) := by show _ = _; rw [hf3.out, if_neg (by rw [hnd.out]; decide), if_pos ht]
                go_wp2_with fail
                go_ret
                exact ⟨ret_int hf.out.symm, hG.out⟩
              · have hf : Hid (dfnErr d l = 0) := by show _ = _; rw [hf3.out, if_neg (by rw [hnd.out]; decide), if_neg ht]
                go_wp2_with fail
                go_ret
                exact ⟨ret_int hf.out.symm, hG.out⟩
  · have hB : (nameErr d.group != 0) = true := by simp [hn]
    have hf : Hid (dfnErr d l = nameErr d.group) := by show _ = _; unfold dfnErr; rw [if_pos hn]
    clear hn
    generalize nameErr d.group = ne at *
    go_enter Tryz.func59, Tryz.ntmps59
    go_wp2_with fail
    rw [HW.out]
    refine HN.out.mono ?_
    rintro e w1 ⟨rfl, hg1⟩
    go_wp2_with fail
    go_ret
    exact ⟨ret_int hf.out.symm, HG0.out.trans hg1⟩
end Go.Proofs.YtcjacgjeiljfgaaGreatDoor

namespace Go.Proofs.YtcjacgjeiljfgaaGreatDoor
open Go.RowKit

/-- Does a definition name the group and the author among its moderators? -/
def accB (d : Dfn) (l : List Aut) (g : ByteArray) (a : Aut) : Bool := (d.group.toList == g.toList) && hasA l a

set_option maxRecDepth 100000 in
set_option maxHeartbeats 1000000 in
theorem everClo (d : Dfn) (l : List Aut) (g : ByteArray) (x : Aut) (bg ba : Nat) (w : World) (h1 : w.cell? ⟨bg, 0, none⟩ = some (.string g)) (h2 : hasRow w ⟨ba, 0, none⟩ 16 = true) (h3 : rowAt w ⟨ba, 0, none⟩ 16 = bC x) (hv : AutsAt w d.mods l) (hl : l.length ≤ 1000000) :
    Calls Tryz.prog 66 #[.agg (dfnC d).toArray, .pointer (some ⟨bg, 0, none⟩), .pointer (some ⟨ba, 0, none⟩)] w fun e w' => e = .returned (.bool (accB d l g x)) ∧ Lay w w' := by
  have hg0 := (Lay.refl w).alloc (.cells (dfnC d).toArray 49)
  have HG := Lib.hid hg0
  have HV := Lib.hid (hv.gr hg0.1)
  obtain ⟨a, cap, hmods, _, _⟩ := hv
  simp only [List.length_map] at hmods
  rw [hmods] at HV
  have b1 := World.block_lt_of_cell? w _ h1
  have b2 := hasRow_lt h2 (by decide)
  have b1' : bg < w.heap.size := b1
  clear hg0 b1
  cases he : (d.group.toList == g.toList) with
  | true =>
    have hf : Hid (accB d l g x = hasA l x) := by show _ = _; unfold accB; rw [he]; rfl
    go_enter Tryz.func66, Tryz.ntmps66
    go_wp2_with fail
    refine (containsA l _ x _ HV.out hl).mono ?_
    rintro e w1 ⟨rfl, hg1⟩
    go_wp2_with fail
    go_ret
    exact ⟨ret_bool hf.out.symm, HG.out.trans hg1⟩
  | false =>
    have hf : Hid (accB d l g x = false) := by show _ = _; unfold accB; rw [he]; rfl
    go_enter Tryz.func66, Tryz.ntmps66
    go_wp2_with fail
    go_ret
    exact ⟨ret_bool hf.out.symm, HG.out⟩

/-! ### blocks written whole -/
theorem Gr.setCells {a : World} (b : Nat) (hb : a.heap.size ≤ b) : ∀ (cs : List Value) (k : Nat) (w : World), Gr a w → Gr a (w.setCells b k cs)
  | [], _, _, h => h
  | v :: cs, k, _, h => Gr.setCells b hb cs (k + 1) _ (h.setCell (p := ⟨b, k, none⟩) hb v)
theorem heap_setCells_whole {b : Nat} {t : TypeId} : ∀ (cs pre post : List Value), post.length = cs.length → ∀ w : World, w.heap[b]? = some (.cells (pre ++ post).toArray t (0, 0)) → (w.setCells b pre.length cs).heap[b]? = some (.cells (pre ++ cs).toArray t (0, 0))
  | [], pre, post, h, w, hw => by obtain rfl : post = [] := List.length_eq_zero_iff.1 h; exact hw
  | v :: cs, pre, post, h, w, hw => by
    obtain ⟨p, post', rfl⟩ : ∃ p q, post = p :: q := by cases post with | nil => simp at h | cons p q => exact ⟨p, q, rfl⟩
    have hs := heap_setCell_same w b pre.length _ t v hw
    have e : (pre ++ p :: post').toArray.setIfInBounds pre.length v = ((pre ++ [v]) ++ post').toArray := by simp
    rw [e] at hs
    have ih := heap_setCells_whole cs (pre ++ [v]) post' (by simpa using h) (w.setCell ⟨b, pre.length, none⟩ v) hs
    simp only [List.length_append, List.length_cons, List.length_nil, Nat.zero_add, List.append_assoc, List.cons_append, List.nil_append] at ih
    exact ih
theorem heap_setCells_at {w : World} {b : Nat} {t : TypeId} {z cs : List Value} (h : w.heap[b]? = some (.cells z.toArray t (0, 0))) (hl : z.length = cs.length) : (w.setCells b 0 cs).heap[b]? = some (.cells cs.toArray t (0, 0)) := by
  have := heap_setCells_whole cs [] z hl w (by simpa using h)
  simpa using this
theorem heap_setCells_ne (b b' : Nat) (hne : b' ≠ b) : ∀ (cs : List Value) (k : Nat) (w : World), (w.setCells b k cs).heap[b']? = w.heap[b']?
  | [], _, _ => rfl
  | v :: cs, k, w => (heap_setCells_ne b b' hne cs (k + 1) _).trans (heap_setCell_other w ⟨b, k, none⟩ b' v hne)
theorem size_setCells' (b : Nat) : ∀ (cs : List Value) (k : Nat) (w : World), (w.setCells b k cs).heap.size = w.heap.size
  | [], _, _ => rfl
  | v :: cs, k, w => (size_setCells' b cs (k + 1) _).trans (by simp)

/-- A definition with other memory for its moderators. -/
def withMods (d : Dfn) (v : Value) : Dfn := { d with mods := v }
def CloneDPost (d : Dfn) (l : List Aut) (w : World) (e : Ending) (w' : World) : Prop := ∃ a n c, e = .returned (.agg (dfnC (withMods d (.slice a n c))).toArray) ∧ AutsAt w' (.slice a n c) l ∧ Gr w w'
theorem dfn_one (d : Dfn) (a : Option Addr) (n c : Nat) : oneB (dfnC (withMods d (.slice a n c))) = true := by simp [dfnC, withMods, oneB_append, oneB_cons, oneB_bC, oneB_nil, Value.oneCell']
theorem after2 {w w1 : World} {A B : List Value} {t : TypeId} (hg : Gr ((w.alloc (.cells A.toArray t)).alloc (.cells B.toArray t)) w1) :
    w1.heap[w.heap.size]? = some (.cells A.toArray t (0, 0)) ∧ (∃ Z : List Value, Z.length = B.length ∧ w1.heap[w.heap.size + 1]? = some (.cells Z.toArray t (0, 0))) ∧ Gr w w1 ∧ w.heap.size + 1 < w1.heap.size := by
  obtain ⟨hl, s2, h1, h2⟩ := box2 w t A B
  exact ⟨(hg.block (by omega)).trans h1, ⟨B, rfl, (hg.block s2).trans h2⟩, hl.1.trans hg, Nat.lt_of_lt_of_le s2 hg.size⟩

set_option maxRecDepth 100000 in
set_option maxHeartbeats 2000000 in
theorem cloneD (d : Dfn) (l : List Aut) (w : World) (hv : AutsAt w d.mods l) (hl : l.length ≤ 1000000) :
    Calls Tryz.prog 61 #[.agg (dfnC d).toArray] w (CloneDPost d l w) := by
  obtain ⟨a, cap, hmods, _, _⟩ := id hv
  simp only [List.length_map] at hmods
  have HV := Lib.hid hv
  clear hv
  go_enter Tryz.func61, Tryz.ntmps61
  go_wp2_with fail
  refine (cloneA l _ _ ((hmods ▸ HV.out).gr ((((Gr.refl w).alloc _).alloc _))) hl).mono ?_
  rintro e w1 ⟨a', n', c', rfl, hau, hfr, hg1⟩
  obtain ⟨h1, ⟨Z, hZ, h2⟩, h3, h4⟩ := after2 hg1
  have hZ54 : Z.length = 54 := hZ
  have hfr' : ∀ x, a' = some x → w.heap.size + 2 ≤ x.block := fun x hx => by have := hfr x hx; simpa using this
  clear hZ hg1 hfr
  have q1 := (cell_block h1 52).trans (dfn_mods d)
  rw [hmods] at q1
  have q2 : w1.frozen? ⟨w.heap.size, 52, none⟩ = false := frozen_of_row w1 _ _ _ _ h1
  have s1 := heap_setCell_same w1 w.heap.size 52 _ _ (.slice a' n' c') h1
  have e1 : (dfnC d).toArray.setIfInBounds 52 (.slice a' n' c') = (dfnC (withMods d (.slice a' n' c'))).toArray := by
    rw [List.setIfInBounds_toArray, dfn_setmods]; rfl
  rw [e1] at s1
  have s2 := (heap_setCell_other w1 ⟨w.heap.size, 52, none⟩ (w.heap.size + 1) (.slice a' n' c') (by simp)).trans h2
  have k1 := hasRow_block s1 0 54 (by rw [dfnC_length]; decide)
  have k2 := (rowAt_block s1 0 54 (by rw [dfnC_length]; decide)).trans (dfn_whole _)
  have k3 := hasRow_block s2 0 54 (by omega)
  have k4 := freeRow_block s2 0 54
  have k5 := dfn_one d a' n' c'
  have S2 := Lib.hid s2; have H3 := Lib.hid h3; have HA := Lib.hid hau; have HF := Lib.hid hfr'
  have hsz4 := h4
  clear h1 h2 s1 s2 h3 hau hfr' e1
  go_wp2_with fail
  have hw := heap_setCells_at (cs := dfnC (withMods d (.slice a' n' c'))) S2.out (by rw [dfnC_length]; exact hZ54)
  refine bodyPost_ret (v := .agg (dfnC (withMods d (.slice a' n' c'))).toArray) (results_cell_row rfl _ _ (w.heap.size + 1) _ _ _ _ rfl hw Tryz.underlying49 rfl (by rw [List.size_toArray, dfnC_length]; kernel_rfl)) rfl ?_
  refine ⟨a', n', c', rfl, HA.out.keep (fun x hx => ?_) ?_, ?_⟩
  · have := HF.out x hx
    rw [heap_setCells_ne _ _ (by omega), heap_setCell_other _ _ _ _ (by show _ ≠ _; simp; omega)]
  · rw [size_setCells']; simp
  · exact Gr.setCells _ (by omega) _ _ _ (H3.out.setCell (p := ⟨w.heap.size, 52, none⟩) (Nat.le_refl _) _)
end Go.Proofs.YtcjacgjeiljfgaaGreatDoor

namespace Go.Proofs.YtcjacgjeiljfgaaGreatDoor
open Go.RowKit

/-- The row of a slice that a call owns, as the sort's contracts ask it. -/
theorem holdsK_of_owns {α : Type} [Inhabited α] (enc : α → List Value) (k : Nat) (hk : ∀ x, (enc x).length = k) (hk0 : 0 < k) {w : World} {base : Nat} {e : TypeId} {g c : Nat} (d : List α)
    (h : w.ownsRow base e k (.slice (some ⟨g, 0, none⟩) d.length c) d.length (d.map enc).flatten) : Sort.HoldsK enc k w g 0 d.toArray := by
  obtain ⟨hlen, h2⟩ := h
  rcases h2 with ⟨h0, _⟩ | ⟨g', cap, cur, hv, _, hh, hc, _, hs, ht⟩
  · cases h0
  · injection hv with e1 e2 e3
    injection e1 with e1
    injection e1 with e1 _
    subst e1
    intro t ht'
    rw [Sort.size_flatK] at ht'
    have htl : t < d.length * k := by simpa using ht'
    have hq : t / k < d.length := (Nat.div_lt_iff_lt_mul hk0).2 htl
    have hm : t % k < k := Nat.mod_lt _ hk0
    have hrows : ∀ r ∈ d.map enc, r.length = k := fun r hr => by obtain ⟨x, _, rfl⟩ := List.mem_map.1 hr; exact hk x
    have hget := flat_get hrows (t / k) (by simpa using hq)
    refine ⟨?_, by simp [World.frozen?, hh]⟩
    rw [Nat.zero_add, cell_of_row w g t cur e (0, 0) hh, Sort.get_flatK enc k _ t (by simpa using htl)]
    have e1 : cur[t]? = (d.map enc).flatten[t]? := by
      rw [← ht, List.getElem?_take, if_pos htl, Array.getElem?_toList]
    have e2 : (d.map enc).flatten[t]? = (enc d[t / k])[t % k]? := by
      have := congrArg (fun l => l[t % k]?) hget
      simp only [rowOf, List.getElem?_take, if_pos hm, List.getElem?_drop, Nat.div_add_mod' t k, List.getElem_map] at this
      exact this
    have hqa : t / k < d.toArray.size := by simpa using hq
    rw [e1, e2, getElem!_pos d.toArray (t / k) hqa, List.getElem?_eq_getElem (by rw [hk]; exact hm), getElem!_pos (enc d.toArray[t / k]) (t % k) (by rw [hk]; exact hm)]
    rfl

theorem gr_sortWorldK {α : Type} [Inhabited α] (enc : α → List Value) (k : Nat) {w0 w : World} (h : Gr w0 w) {blk : Nat} (hb : w0.heap.size ≤ blk) (off m : Nat) (d : Array α) (os : Array Obj) : Gr w0 (sortWorldK enc k w blk off m d os) := by
  refine ⟨h.os, h.tape, h.output, ?_, fun j hj => ?_⟩
  · have := h.size
    simp [sortWorldK, Sort.grow, Sort.putRowK, Sort.putRow, Sort.mapBlock, Sort.ahead]; omega
  · have hjw : j < w.heap.size := Nat.lt_of_lt_of_le hj h.size
    rw [← h.block hj]
    simp only [sortWorldK, Sort.grow, Sort.putRowK, Sort.putRow, Sort.mapBlock, Sort.ahead]
    rw [Array.getElem?_append, if_pos (by simpa using hjw), Array.getElem?_modify, if_neg (by omega)]

/-- A definition whose moderators are one cell. -/
abbrev Dfn1 := { d : Dfn // d.mods.oneCell' = true }
instance : Inhabited Dfn1 := ⟨⟨⟨default, default, ⟨#[]⟩, 0, false, false, .slice none 0 0, ⟨#[]⟩⟩, rfl⟩⟩
def d1C (d : Dfn1) : List Value := dfnC d.1
theorem d1C_len (d : Dfn1) : (d1C d).length = 54 := dfnC_length d.1
theorem d1C_one (d : Dfn1) : oneB (d1C d) = true := by
  have := d.2
  simp [d1C, dfnC, oneB_append, oneB_cons, oneB_bC, oneB_nil, Value.oneCell'] at this ⊢
  exact this
theorem pickLays (blk off size : Nat) (w : World) : CmpLays Tryz.prog 93 #[] d1C 54 (fun x y => cfD x.1 y.1) blk off size w :=
  fun _ _ _ _ x y => (pickCmp x.1 y.1 _).mono fun _ _ ⟨he, hl⟩ => ⟨he, hl.grow⟩
theorem lenAny (n : Nat) (W : World) (h : n ≤ 12) : Calls Tryz.prog 129 #[.int .u64 n] W fun e w' => (∃ l : Int, e = .returned (.int .i64 l)) ∧ w' = W :=
  (Tryz.bits_Len n W (by omega) (by omega)).mono fun _ _ ⟨he, hw⟩ => ⟨⟨_, he⟩, hw⟩
theorem sortSome (acc : List Dfn1) (w0 w : World) (base g c : Nat) (hb : w0.heap.size ≤ base) (hg : Gr w0 w) (hl : acc.length ≤ 12) (h : w.ownsRow base 49 54 (.slice (some ⟨g, 0, none⟩) acc.length c) acc.length (acc.map d1C).flatten) :
    Calls Tryz.prog 92 #[.slice (some ⟨g, 0, none⟩) acc.length c, .func (.func 93) #[] #[]] w fun e w' => e = .returned (.tuple #[]) ∧ Gr w0 w' := by
  have eg : ∀ args w, (callFunc 93 args).run Tryz.prog w = .ok (.enter 93 args) w := enters_of Tryz.func93 (by kernel_rfl) rfl
  have hlt := h.lt g rfl
  have hcon := AnyQ.slices_SortFunc_small Tryz.sortDfn 54 Tryz.isAgg49 Tryz.sizeOf49 d1C d1C_len (fun x v hv => List.all_eq_true.1 (d1C_one x) v hv) (fun x y => cfD x.1 y.1) 93 #[] g 0 c acc.toArray w eg (pickLays g 0 _ w)
    (holdsK_of_owns d1C 54 d1C_len (by decide) acc h) hlt.2 (by simpa using hl) lenAny
  rw [List.size_toArray] at hcon
  change Calls Tryz.prog 92 _ _ _ at hcon
  refine hcon.mono ?_
  rintro e w' ⟨he, n, os, rfl⟩
  exact ⟨he, gr_sortWorldK d1C 54 hg (by omega) 0 n _ os⟩
set_option maxRecDepth 100000 in
set_option maxHeartbeats 1000000 in
theorem insNil (w : World) (fv : Value) : Calls Tryz.prog 155 #[.slice none 0 0, .int .i64 0, .int .i64 0, fv] w fun e w' => e = .returned (.tuple #[]) ∧ w = w' := by
  go_enter Tryz.func155, Tryz.ntmps155
  go_wp2_with fail
  refine wp_loop_rounds 1 ?_
  rw [rounds_succ]
  go_wp2_with fail
  go_end0
  exact ⟨rfl, rfl⟩
set_option maxRecDepth 100000 in
set_option maxHeartbeats 1000000 in
theorem pdqNil (w : World) (n : Int) (fv : Value) : Calls Tryz.prog 128 #[.slice none 0 0, .int .i64 0, .int .i64 0, .int .i64 n, fv] w fun e w' => e = .returned (.tuple #[]) ∧ w = w' := by
  go_enter Tryz.func128, Tryz.ntmps128
  go_wp2_with fail
  refine wp_loop_rounds 1 ?_
  rw [rounds_succ]
  go_wp2_with fail
  refine (insNil _ _).mono ?_
  rintro e w' ⟨rfl, rfl⟩
  go_wp2_with fail
  (try simp only [Exit.inBlock, Exit.then]); refine bodyPost_ret (results_none rfl _ _ _) rfl ?_
  exact ⟨rfl, rfl⟩
set_option maxRecDepth 100000 in
set_option maxHeartbeats 1000000 in
theorem sortNil (w : World) (fv : Value) : Calls Tryz.prog 92 #[.slice none 0 0, fv] w fun e w' => e = .returned (.tuple #[]) ∧ w = w' := by
  go_enter Tryz.func92, Tryz.ntmps92
  go_wp2_with fail
  refine (lenAny 0 _ (by omega)).mono ?_
  rintro e w' ⟨⟨n, rfl⟩, rfl⟩
  go_wp2_with fail
  refine (pdqNil _ _ _).mono ?_
  rintro e w' ⟨rfl, rfl⟩
  go_wp2_with fail
  go_end0
  exact ⟨rfl, rfl⟩
end Go.Proofs.YtcjacgjeiljfgaaGreatDoor

namespace Go.Proofs.YtcjacgjeiljfgaaGreatDoor
open Go.RowKit
open Go.Maps (Keyed)

theorem fill_from : ∀ (l pre post : List Value), post.length = l.length → List.foldl (fun (cs : Array Value) (x : Value × Nat) => cs.setIfInBounds x.2 x.1) (pre ++ post).toArray (l.zipIdx pre.length) = (pre ++ l).toArray
  | [], pre, post, h => by obtain rfl : post = [] := List.length_eq_zero_iff.1 h; rfl
  | v :: l, pre, post, h => by
    obtain ⟨p, post', rfl⟩ : ∃ p q, post = p :: q := by cases post with | nil => simp at h | cons p q => exact ⟨p, q, rfl⟩
    have e : (pre ++ p :: post').toArray.setIfInBounds pre.length v = ((pre ++ [v]) ++ post').toArray := by simp
    rw [List.zipIdx_cons, List.foldl_cons, e]
    have := fill_from l (pre ++ [v]) post' (by simpa using h)
    simp only [List.length_append, List.length_cons, List.length_nil, Nat.zero_add, List.append_assoc, List.cons_append, List.nil_append] at this ⊢
    exact this
/-- A new row, filled by one aggregate. -/
@[go_sem] theorem fill_whole (l z : List Value) (h : z.length = l.length) : List.foldl (fun (cs : Array Value) (x : Value × Nat) => cs.setIfInBounds x.2 x.1) z.toArray l.zipIdx = l.toArray := by
  have := fill_from l [] z h
  simpa using this

open Classical in
/-- How an element of the map reads: as itself, where it is a definition. -/
noncomputable def dR (v : Value) : Option (DataW Value × List MemPlace) := if ∃ d : Dfn, v = .agg (dfnC d).toArray then some (.held v, []) else none
theorem dR_mk (d : Dfn) : dR (.agg (dfnC d).toArray) = some (.held (.agg (dfnC d).toArray), []) := if_pos ⟨d, rfl⟩
theorem dR_inv {v : Value} {y : DataW Value × List MemPlace} (h : dR v = some y) : ∃ d : Dfn, v = .agg (dfnC d).toArray := by
  unfold dR at h; split at h
  · assumption
  · cases h
theorem dR_eq {d : Dfn} {y : DataW Value × List MemPlace} (h : dR (.agg (dfnC d).toArray) = some y) : y.1 = .held (.agg (dfnC d).toArray) := by
  rw [dR_mk] at h; rw [← Option.some.inj h]
theorem dfnC_inj {a b : Dfn} (h : dfnC a = dfnC b) : a = b := by
  have e1 := bC_inj ((dfn_id a).symm.trans (h ▸ dfn_id b))
  have e2 := bC_inj ((dfn_author a).symm.trans (h ▸ dfn_author b))
  have g : ∀ k : Nat, (dfnC a)[k]? = (dfnC b)[k]? := fun k => by rw [h]
  have e3 := (dfn_group a).symm.trans ((g 48).trans (dfn_group b))
  have e4 := (dfn_version a).symm.trans ((g 49).trans (dfn_version b))
  have e5 := (dfn_removed a).symm.trans ((g 50).trans (dfn_removed b))
  have e6 := (dfn_moderated a).symm.trans ((g 51).trans (dfn_moderated b))
  have e7 := (dfn_mods a).symm.trans ((g 52).trans (dfn_mods b))
  have e8 := (dfn_text a).symm.trans ((g 53).trans (dfn_text b))
  cases a; cases b
  simp at e1 e2 e3 e4 e5 e6 e7 e8
  simp [*]

/-- The definitions that a map holds. -/
structure Defs (w : World) (bm n : Nat) (D : DataW Value) (ents : List (Dfn × List Aut)) : Prop where
  own : w.ownsMap Tryz.prog 23 dR bm n D
  has : ∀ k, Maps.has D k = true ↔ ∃ e ∈ ents, k = kl e.1.id
  elem : ∀ e ∈ ents, ∀ z, D.atKey (kl e.1.id) z = .held (.agg (dfnC e.1).toArray)
  size : Maps.size D = ents.length
  apart : ∀ e ∈ ents, ∀ e' ∈ ents, e.1.id = e'.1.id → e = e'
  mods : ∀ e ∈ ents, AutsAt w e.1.mods e.2 ∧ e.2.length ≤ 8
theorem Defs.gr {w w' : World} {bm n : Nat} {D : DataW Value} {ents : List (Dfn × List Aut)} (h : Defs w bm n D ents) (hg : Gr w w') : Defs w' bm n D ents :=
  ⟨h.own.kept hg.grownBy (by simp), h.has, h.elem, h.size, h.apart, fun e he => ⟨(h.mods e he).1.gr hg, (h.mods e he).2⟩⟩

theorem auts_oneL {w : World} {d : Dfn} {l : List Aut} (h : AutsAt w d.mods l) : oneB (dfnC d) = true := by
  obtain ⟨a, c, hv, _⟩ := h
  simp [dfnC, oneB_append, oneB_cons, oneB_bC, oneB_nil, Value.oneCell', hv]
def everB (ents : List (Dfn × List Aut)) (g : ByteArray) (x : Aut) : Bool := ents.any fun e => accB e.1 e.2 g x
def PickPost (ents : List (Dfn × List Aut)) (g : ByteArray) (x : Aut) (w : World) (e : Ending) (w' : World) : Prop := ∃ a n c, e = .returned (.slice a n c) ∧ decide (0 < n) = everB ents g x ∧ Gr w w'

/-- What has been picked so far: something just if something that has come was accepted. -/
def PickRel (ents : List (Dfn × List Aut)) (g : ByteArray) (x : Aut) (left : Lit → Bool) (acc : List Dfn1) : Prop :=
  (∀ k, left k = true → ∃ e ∈ ents, k = kl e.1.id) ∧ (acc = [] ↔ ∀ e ∈ ents, left (kl e.1.id) = false → accB e.1 e.2 g x = false)
theorem pick_start {w : World} {bm n : Nat} {D : DataW Value} {ents : List (Dfn × List Aut)} (h : Defs w bm n D ents) (g : ByteArray) (x : Aut) : PickRel ents g x (Maps.has D) [] :=
  ⟨fun k hk => (h.has k).1 hk, ⟨fun _ e he hf => absurd ((h.has _).2 ⟨e, he, rfl⟩) (by rw [hf]; decide), fun _ => rfl⟩⟩
theorem sameKey_iff (a b : Id) : (kl a).sameKey (kl b) = decide (a = b) := by
  by_cases h : a = b
  · subst h; rw [WideAt.sameKey_self (kl_key a)]; simp
  · rw [Maps.sameKey_ne (fun e => h (kl_inj e))]; simp [h]
theorem pick_step {ents : List (Dfn × List Aut)} {g : ByteArray} {x : Aut} {left : Lit → Bool} {acc : List Dfn1} (hap : ∀ e ∈ ents, ∀ e' ∈ ents, e.1.id = e'.1.id → e = e') (h : PickRel ents g x left acc) {e : Dfn × List Aut} (he : e ∈ ents) (acc' : List Dfn1)
    (hacc : acc' = [] ↔ acc = [] ∧ accB e.1 e.2 g x = false) (_hl : left (kl e.1.id) = true) : PickRel ents g x (fun z => left z && !z.sameKey (kl e.1.id)) acc' := by
  refine ⟨fun k hk => h.1 k (by simp at hk; exact hk.1), ?_⟩
  rw [hacc, h.2]
  constructor
  · rintro ⟨h1, h2⟩ e' he' hf
    simp only [Bool.and_eq_false_iff, Bool.not_eq_false'] at hf
    rcases hf with hf | hf
    · exact h1 e' he' hf
    · rw [sameKey_iff] at hf
      rw [hap e' he' e he (by simpa using hf)]; exact h2
  · intro h1
    refine ⟨fun e' he' hf => h1 e' he' (by simp [hf]), h1 e he ?_⟩
    show (left (kl e.1.id) && !(kl e.1.id).sameKey (kl e.1.id)) = false
    rw [sameKey_iff]; simp
theorem pick_end {ents : List (Dfn × List Aut)} {g : ByteArray} {x : Aut} {left : Lit → Bool} {acc : List Dfn1} (h : PickRel ents g x left acc) (hl : ∀ k, left k = false) : decide (0 < acc.length) = everB ents g x := by
  have h2 := h.2
  unfold everB
  cases hb : ents.any fun e => accB e.1 e.2 g x with
  | true =>
    obtain ⟨e, he, ha⟩ := List.any_eq_true.1 hb
    have : acc ≠ [] := fun h0 => by have := h2.1 h0 e he (hl _); rw [this] at ha; cases ha
    simpa using List.length_pos_iff.2 this
  | false =>
    have : acc = [] := h2.2 fun e he _ => by
      cases ha : accB e.1 e.2 g x with
      | true => rw [List.any_eq_true.2 ⟨e, he, ha⟩] at hb; cases hb
      | false => rfl
    rw [this]; rfl
theorem infoDfn : ∃ z, (Tryz.prog.info? 49).map (fun i => (i.zero, i.size, i.bytes)) = some (some z, 54, 120) ∧ z.cells.size = 54 := ⟨.agg (List.replicate 48 (Value.int .u8 0) ++ [Value.string ⟨#[]⟩, Value.int .i64 0, Value.bool false, Value.bool false, Value.slice none 0 0, Value.string ⟨#[]⟩]).toArray, by kernel_rfl, by decide⟩

set_option maxRecDepth 100000 in
set_option maxHeartbeats 4000000 in
theorem pickEver (br bm n : Nat) (D : DataW Value) (ents : List (Dfn × List Aut)) (g : ByteArray) (x : Aut) (bg ba : Nat) (w : World) (hc : w.cell? ⟨br, 2, none⟩ = some (.map (some bm))) (hD : Defs w bm n D ents) (h12 : ents.length ≤ 12)
    (h1 : w.cell? ⟨bg, 0, none⟩ = some (.string g)) (h2 : hasRow w ⟨ba, 0, none⟩ 16 = true) (h3 : rowAt w ⟨ba, 0, none⟩ 16 = bC x) :
    Calls Tryz.prog 65 #[.pointer (some ⟨br, 0, none⟩), .func (.func 66) #[] #[.pointer (some ⟨bg, 0, none⟩), .pointer (some ⟨ba, 0, none⟩)]] w (PickPost ents g x w) := by
  have HD := Lib.hid hD
  have H1 := Lib.hid h1; have H2 := Lib.hid h2; have H3 := Lib.hid h3
  have b1 : Hid (bg < w.heap.size) := World.block_lt_of_cell? w _ h1
  have b2 : Hid (ba < w.heap.size) := hasRow_lt h2 (by decide)
  have eg : ∀ args w, (callFunc 66 args).run Tryz.prog w = .ok (.enter 66 args) w := enters_of Tryz.func66 (by kernel_rfl) rfl
  obtain ⟨z0, hinfo, hzs⟩ := infoDfn
  obtain ⟨i0, hi, hz0, hz1, hz2⟩ := info_parts hinfo
  have HZ := Lib.hid hzs
  clear hD h1 h2 h3 hinfo hzs
  go_enter Tryz.func65, Tryz.ntmps65
  go_wp2_with (at_range; refine wpList_range_own _ rfl _ 111 rfl 23 49 kId Tryz.underlying111 dR bm n D rfl HD.out.own ?_; intro w0 hrg0 hg0 hs0)
  go_frame
  have HP := Lib.hid (pick_start HD.out g x)
  have HS := Lib.hid HD.out.size
  have G0 := Lib.hid (Gr.of_grownBy hg0)
  have HR0 := Lib.hid hrg0
  have HS0 := Lib.hid hs0
  clear hrg0 hg0 hs0
  go_loopw [5, 7, 15, 16, 17, 18, 19, 20, 21, 22, 23, 24, 25, 26] (fun v _ _ _ _ _ _ _ _ _ _ _ _ _ wr => ∃ left cnt acc, Hid (wr.ranges Tryz.prog 23 dR bm w.heap.size n D left cnt) ∧ Hid (wr.ownsRow (w.heap.size + 1) 49 54 v acc.length (acc.map d1C).flatten) ∧ Hid (PickRel ents g x left acc) ∧ acc.length + cnt ≤ ents.length ∧ Hid (acc = [] → v = .slice none 0 0) ∧ Hid (Gr w wr) ∧ Hid (w.heap.size + 1 ≤ wr.heap.size)) (fun _ _ _ _ _ _ _ _ _ _ _ _ _ _ wr => wr.rangeLeft bm w.heap.size)
  case atStart => exact ⟨_, _, [], HR0.out, ⟨rfl, .inl ⟨rfl, rfl⟩⟩, HP.out, by rw [HS.out]; simp, fun _ => rfl, G0.out, by show _ ≤ _; rw [HS0.out]; exact Nat.le_refl _⟩
  case round =>
    obtain ⟨left, cnt, acc, hrg, hown, hrel, hcnt, hnil, hG, hsz⟩ := hrel
    clear HP HS G0 HR0 HS0
    go_wp2_with (at_next; refine wpList_next_ranges _ rfl _ rfl 23 kId dR (fun v : Value => v) (fun d : Dfn => .agg (dfnC d).toArray) (fun key _ _ => ⟨key, rfl⟩) (fun _ _ h => dR_inv h) bm w.heap.size n D left cnt rfl hrg.out ?_ ?_)
    · intro hc0 hl0
      have HE := Lib.hid (pick_end hrel.out hl0)
      clear hc0 hl0
      by_cases ha : acc = []
      · have hv := hnil.out ha
        subst hv
        subst ha
        go_wp2_with fail
        refine (sortNil _ _).mono ?_
        rintro e w' ⟨rfl, rfl⟩
        go_wp2_with fail
        go_ret
        exact ⟨none, 0, 0, rfl, HE.out, hG.out⟩
      · obtain ⟨g', cap', rfl⟩ : ∃ g' cap', u5 = .slice (some ⟨g', 0, none⟩) acc.length cap' := by
          rcases hown.out.2 with ⟨_, h0⟩ | ⟨g', cap', _, hv, _⟩
          · exact absurd (List.length_eq_zero_iff.1 h0) ha
          · exact ⟨g', cap', hv⟩
        have HSo := Lib.hid (sortSome acc w wr (w.heap.size + 1) g' cap' (by omega) hG.out (by omega) hown.out)
        clear ha
        go_wp2_with fail
        refine HSo.out.mono ?_
        rintro e w' ⟨rfl, hgE⟩
        go_wp2_with fail
        go_ret
        exact ⟨_, _, _, rfl, HE.out, hgE⟩
    · intro key c k0 yd yp w1 cnt1 hkey hlx hv hat hrg1 hlt hg1 hs1 hen
      obtain ⟨en, hmem, rfl⟩ := hrel.out.1 k0 hlx
      obtain rfl : c = en.1 := by
        have h1 := hat (.held undef)
        have h2 : yd = .held (.agg (dfnC c).toArray) := dR_eq hv
        rw [HD.out.elem en hmem, h2] at h1
        injection h1 with h1
        exact dfnC_inj (List.toArray_inj (Value.agg.inj h1)).symm
      have HMEM := Lib.hid hmem
      have HLX := Lib.hid hlx
      have hne : Hid (u5.ownBlock = none ∨ u5.ownBlock ≠ some w.heap.size) := by
        show _ ∨ _
        cases hb : u5.ownBlock with
        | none => exact .inl rfl
        | some k => exact .inr (fun e => by have := (hown.out.lt k hb).1; injection e with e; omega)
      have G1 := Lib.hid (hG.out.grown hg1 (fun k hk => by injection hk with hk; omega))
      have O1 := Lib.hid (hown.out.kept hg1 hne.out)
      have R1 := Lib.hid hrg1
      have SZ1 : Hid (w.heap.size + 1 ≤ w1.heap.size) := by show _ ≤ _; rw [hs1]; exact hsz.out
      have hcl : Hid (cnt1 < cnt) := hlt
      have hml : wr.rangeLeft bm w.heap.size = cnt := hrg.out.left_eq
      have HML := Lib.hid hml
      clear hml hkey hlx hv hat hrg1 hlt hg1 hs1 hmem hown hrg hG hsz
      have GB := Lib.hid ((Gr.refl w1).alloc (.cells (dfnC en.1).toArray 49))
      have q1 := Lib.hid (((G1.out.trans GB.out).cell (p := ⟨bg, 0, none⟩) b1.out).trans H1.out)
      have q2 := Lib.hid (((G1.out.trans GB.out).hasRow (k := 0) (n := 16) b2.out).trans H2.out)
      have q3 := Lib.hid (((G1.out.trans GB.out).rowAt (k := 0) (n := 16) b2.out).trans H3.out)
      have HM := Lib.hid (HD.out.mods en HMEM.out)
      have hone1 := auts_oneL HM.out.1
      have HCl := Lib.hid (everClo en.1 en.2 g x bg ba _ q1.out q2.out q3.out (HM.out.1.gr (G1.out.trans GB.out)) (by have := HM.out.2; omega))
      go_wp2_with fail
      refine HCl.out.mono ?_
      rintro e w3 ⟨rfl, hg3⟩
      have HBx := Lib.hid ((hg3.1.block (b := w1.heap.size) (by simp)).trans (heap_alloc_new w1 (.cells (dfnC en.1).toArray 49)))
      have G3 := Lib.hid (GB.out.trans hg3.1)
      have R3 := Lib.hid (R1.out.kept G3.out.grownBy (by simp) (by simp))
      have O3 := Lib.hid (O1.out.kept G3.out.grownBy (by cases u5.ownBlock <;> simp))
      clear hg3 HCl q1 q2 q3
      cases ha : accB en.1 en.2 g x with
      | false =>
        have HA := Lib.hid ha
        clear ha
        go_wp2_with fail
        go_roundw
        case rel => exact ⟨_, _, acc, R3.out, O3.out, pick_step HD.out.apart hrel.out HMEM.out acc (by rw [HA.out]; simp) HLX.out, by have := hcl.out; omega, hnil.out, G1.out.trans G3.out, Nat.le_trans SZ1.out G3.out.size⟩
        case measure => rw [R3.out.left_eq, HML.out]; exact hcl.out
      | true =>
        have HA := Lib.hid ha
        clear ha
        have f1 := hasRow_block HBx.out 0 54 (by rw [dfnC_length]; decide)
        have f2 := (rowAt_block HBx.out 0 54 (by rw [dfnC_length]; decide)).trans (dfn_whole _)
        have HCd := Lib.hid (cloneD en.1 en.2 w3 (HM.out.1.gr (G1.out.trans G3.out)) (by have := HM.out.2; omega))
        go_wp2_with fail
        refine HCd.out.mono ?_
        rintro e w4 ⟨a', n', c', rfl, hau, hg4⟩
        have G4 := Lib.hid (G3.out.trans hg4)
        have R4 := Lib.hid ((R3.out.kept hg4.grownBy (by simp) (by simp)).alloc (.cells (dfnC (withMods en.1 (.slice a' n' c'))).toArray 49))
        have O4 := Lib.hid ((O3.out.kept hg4.grownBy (by cases u5.ownBlock <;> simp)).alloc (.cells (dfnC (withMods en.1 (.slice a' n' c'))).toArray 49))
        have hnews : Hid (∀ j u, (dfnC (withMods en.1 (.slice a' n' c')))[j]? = some u → (w4.alloc (.cells (dfnC (withMods en.1 (.slice a' n' c'))).toArray 49)).cell? ((⟨w4.heap.size, 0, none⟩ : Addr).add j) = some u) := by
          intro j u hu
          rw [Addr.add_lit, Nat.zero_add, World.cell?_alloc_new]; simpa using hu
        have hnl : Hid ((dfnC (withMods en.1 (.slice a' n' c'))).length = 1 * 54) := by show _ = _; rw [dfnC_length]
        have h1c : Hid (∀ u ∈ dfnC (withMods en.1 (.slice a' n' c')), u.oneCell' = true) := fun u hu => List.all_eq_true.1 (dfn_one en.1 a' n' c') u hu
        have hsz4 : Hid (w.heap.size + 1 ≤ w4.heap.size) := Nat.le_trans SZ1.out G4.out.size
        clear hau f1 f2 hg4
        go_wp2_with (at_builtin; refine wpList_append_own _ rfl _ _ 50 rfl (w.heap.size + 1) 49 i0 z0 54 120 Tryz.underlying50 hi hz0 hz1 hz2 HZ.out (by decide) u5 acc.length (acc.map d1C).flatten rfl O4.out ⟨w4.heap.size, 0, none⟩ 1 1 (dfnC (withMods en.1 (.slice a' n' c'))) rfl hnl.out hnews.out h1c.out (by unfold maxLen; omega) (by omega) (by have := hsz4.out; simp; omega) ?_; intro v' w5 hown5 hgrow5 hnil5)
        go_roundw
        case rel =>
          have hr : u5.ownBlock ≠ some w.heap.size := by
            intro hb; have := (O4.out.lt _ hb).1; omega
          have hbm : u5.ownBlock ≠ some bm := by
            intro hb
            rcases O4.out.2 with ⟨h0, _⟩ | ⟨g', cap', cur, h0, _, hh, _⟩
            · rw [h0] at hb; cases hb
            · rw [h0] at hb
              have hb' : g' = bm := by simpa [Value.ownBlock] using hb
              obtain ⟨es, clock, _, _, _, hm, _⟩ := R4.out
              rw [hb', hm] at hh; cases hh
          refine ⟨_, _, acc ++ [⟨withMods en.1 (.slice a' n' c'), rfl⟩], R4.out.kept hgrow5 (fun e => hbm e.symm) (fun e => hr e.symm), ?_, pick_step HD.out.apart hrel.out HMEM.out _ (by rw [HA.out]; simp) HLX.out, by have := hcl.out; simp; omega, fun h => by simp at h, ?_, ?_⟩
          · show World.ownsRow _ _ _ _ _ _ _
            rw [List.length_append, List.map_append, List.flatten_append]
            simpa [d1C] using hown5
          · exact ((G1.out.trans G4.out).alloc _).grown hgrow5 (fun k hk => by have := (O4.out.lt k hk).1; omega)
          · have h1 := hgrow5.size; have h2 := hsz4.out; simp at h1; show _ ≤ _; omega
        case measure =>
          have hr : u5.ownBlock ≠ some w.heap.size := by
            intro hb; have := (O4.out.lt _ hb).1; omega
          have hbm : u5.ownBlock ≠ some bm := by
            intro hb
            rcases O4.out.2 with ⟨h0, _⟩ | ⟨g', cap', cur, h0, _, hh, _⟩
            · rw [h0] at hb; cases hb
            · rw [h0] at hb
              have hb' : g' = bm := by simpa [Value.ownBlock] using hb
              obtain ⟨es, clock, _, _, _, hm, _⟩ := R4.out
              rw [hb', hm] at hh; cases hh
          rw [(R4.out.kept hgrow5 (fun e => hbm e.symm) (fun e => hr e.symm)).left_eq, HML.out]; exact hcl.out
end Go.Proofs.YtcjacgjeiljfgaaGreatDoor

namespace Go.Proofs.YtcjacgjeiljfgaaGreatDoor
open Go.RowKit

/-- A pointer to a registry, nil or not. -/
def ptrV (r : Option Nat) : Value := .pointer (r.map fun b => ⟨b, 0, none⟩)
/-- The registry at r holds the definitions ents. -/
def RegAt (w : World) (r : Option Nat) (ents : List (Dfn × List Aut)) : Prop :=
  match r with
  | none => ents = []
  | some br => ∃ bm n D, w.cell? ⟨br, 2, none⟩ = some (.map (some bm)) ∧ Defs w bm n D ents ∧ ents.length ≤ 12
theorem RegAt.gr {w w' : World} {r : Option Nat} {ents : List (Dfn × List Aut)} (h : RegAt w r ents) (hg : Gr w w') : RegAt w' r ents := by
  cases r with
  | none => exact h
  | some br =>
    obtain ⟨bm, n, D, h1, h2, h3⟩ := h
    exact ⟨bm, n, D, (hg.cell (p := ⟨br, 2, none⟩) (World.block_lt_of_cell? w _ h1)).trans h1, h2.gr hg, h3⟩

set_option maxRecDepth 100000 in
set_option maxHeartbeats 2000000 in
theorem pickNil (w : World) (fv : Value) : Calls Tryz.prog 65 #[.pointer none, fv] w fun e w' => e = .returned (.slice none 0 0) ∧ w = w' := by
  go_enter Tryz.func65, Tryz.ntmps65
  go_wp2_with fail
  go_ret
  exact ⟨rfl, rfl⟩

set_option maxRecDepth 100000 in
set_option maxHeartbeats 2000000 in
theorem everMod (r : Option Nat) (ents : List (Dfn × List Aut)) (g : ByteArray) (x : Aut) (w : World) (hr : RegAt w r ents) :
    Calls Tryz.prog 30 #[ptrV r, .string g, .agg (bC x).toArray] w fun e w' => e = .returned (.bool (everB ents g x)) ∧ Gr w w' := by
  have hG := Lib.hid (((Gr.refl w).alloc (.cells #[.string g] 9)).alloc (.cells (bC x).toArray 25))
  cases r with
  | none =>
    have he : Hid (everB ents g x = false) := by show _ = _; rw [show ents = [] from hr]; rfl
    clear hr
    unfold ptrV
    simp only [Option.map_none]
    go_enter Tryz.func30, Tryz.ntmps30
    go_wp2_with fail
    refine (pickNil _ _).mono ?_
    rintro e w' ⟨rfl, rfl⟩
    go_wp2_with fail
    go_ret
    exact ⟨ret_bool he.out.symm, hG.out⟩
  | some br =>
    obtain ⟨bm, n, D, h1, h2, h3⟩ := hr
    have hb := World.block_lt_of_cell? w _ h1
    have HP := Lib.hid (pickEver br bm n D ents g x w.heap.size (w.heap.size + 1) ((w.alloc (.cells #[.string g] 9)).alloc (.cells (bC x).toArray 25))
      ((hG.out.cell (p := ⟨br, 2, none⟩) hb).trans h1) (h2.gr hG.out) h3 (by go_simp) (by go_simp) (by go_simp))
    clear h1 h2 h3 hb
    unfold ptrV
    simp only [Option.map_some]
    go_enter Tryz.func30, Tryz.ntmps30
    go_wp2_with fail
    refine HP.out.mono ?_
    rintro e w1 ⟨a, m, c, rfl, hd, hg1⟩
    have HDe := Lib.hid hd
    clear hd
    go_wp2_with fail
    go_ret
    exact ⟨ret_bool (by rw [← HDe.out]), hG.out.trans hg1⟩

set_option maxRecDepth 100000 in
set_option maxHeartbeats 2000000 in
theorem countsClo (r : Option Nat) (ents : List (Dfn × List Aut)) (g : ByteArray) (x : Aut) (rb yb : Nat) (w : World) (hr : RegAt w r ents) (h1 : w.cell? ⟨rb, 0, none⟩ = some (ptrV r)) (h2 : hasRow w ⟨yb, 32, none⟩ 16 = true) (h3 : rowAt w ⟨yb, 32, none⟩ 16 = bC x) :
    Calls Tryz.prog 29 #[.string g, .pointer (some ⟨rb, 0, none⟩), .pointer (some ⟨yb, 0, none⟩)] w fun e w' => e = .returned (.bool (everB ents g x)) ∧ Gr w w' := by
  have HE := Lib.hid (everMod r ents g x w hr)
  clear hr
  go_enter Tryz.func29, Tryz.ntmps29
  go_wp2_with fail
  refine HE.out.mono ?_
  rintro e w1 ⟨rfl, hg1⟩
  go_wp2_with fail
  go_ret
  exact ⟨rfl, hg1⟩

/-- Does a cancellation withdraw an article? -/
def countsB (y : Canc) (x : Rw) (gs : List ByteArray) (ents : List (Dfn × List Aut)) : Bool :=
  (y.target == x.id) && decide (x.date ≤ y.date) && (y.author == x.author || gs.any fun g => everB ents g y.author)

theorem box3 (w : World) (y : Canc) (x : Rw) (v : Value) : ∃ W, W = ((w.alloc (.cells (cancC y).toArray 40)).alloc (.cells (rwC x).toArray 52)).alloc (.cells #[v] 46) ∧ Gr w W ∧
    W.heap[w.heap.size]? = some (.cells (cancC y).toArray 40 (0, 0)) ∧ W.cell? ⟨w.heap.size + 2, 0, none⟩ = some v := by
  refine ⟨_, rfl, (((Gr.refl w).alloc _).alloc _).alloc _, ?_, ?_⟩
  · rw [heap_alloc_old _ _ (by simp; omega), heap_alloc_old _ _ (by simp)]; exact heap_alloc_new w _
  · rw [World.cell?_alloc_at _ _ _ _ (by simp)]; rfl

set_option maxRecDepth 100000 in
set_option maxHeartbeats 4000000 in
theorem countsC (y : Canc) (x : Rw) (gs : List ByteArray) (r : Option Nat) (ents : List (Dfn × List Aut)) (w : World) (hr : RegAt w r ents) (hgs : StrsAt w x.groups gs) (hl : gs.length ≤ 1000000) :
    Calls Tryz.prog 10 #[.agg (cancC y).toArray, .agg (rwC x).toArray, ptrV r] w fun e w' => e = .returned (.bool (countsB y x gs ents)) ∧ Gr w w' := by
  obtain ⟨W, hW, hGW, hby, hbr⟩ := box3 w y x (ptrV r)
  have eg : ∀ args w, (callFunc 29 args).run Tryz.prog w = .ok (.enter 29 args) w := enters_of Tryz.func29 (by kernel_rfl) rfl
  have hz : w.heap.size < W.heap.size := (Array.getElem?_eq_some_iff.1 hby).1
  have HC := Lib.hid (containsFuncS gs x.groups (fun g => everB ents g y.author) 29 #[.pointer (some ⟨w.heap.size + 2, 0, none⟩), .pointer (some ⟨w.heap.size, 0, none⟩)] W eg
    (fun s _ W' hg' => countsClo r ents s y.author (w.heap.size + 2) w.heap.size W' (hr.gr (hGW.trans hg')) ((hg'.cell (p := ⟨w.heap.size + 2, 0, none⟩) (World.block_lt_of_cell? W _ hbr)).trans hbr)
      ((hg'.hasRow hz).trans (hasRow_block hby 32 16 (by rw [cancC_length]; decide))) (((hg'.rowAt hz).trans (rowAt_block hby 32 16 (by rw [cancC_length]; decide))).trans (canc_author y))) (hgs.gr hGW) hl)
  obtain ⟨ga, gc, hgv, _⟩ := hgs
  have HG := Lib.hid hGW
  have HW := Lib.hid hW
  clear hr eg hby hbr hz hGW hW
  obtain ⟨pr, hpr⟩ : ∃ pr, ptrV r = .pointer pr := ⟨_, rfl⟩
  rw [hpr] at HW ⊢
  have HPR := Lib.hid hpr
  clear hpr
  cases ht : (y.target == x.id) with
  | false =>
    have hf : Hid (countsB y x gs ents = false) := by show _ = _; unfold countsB; rw [ht]; rfl
    go_enter Tryz.func10, Tryz.ntmps10
    go_wp2_with fail
    go_ret
    exact ⟨ret_bool hf.out.symm, by rw [← HW.out]; exact HG.out⟩
  | true =>
    by_cases hd : x.date ≤ y.date
    · have hd1 : decide (y.date < x.date) = false := by simp; omega
      have hf0 : Hid (countsB y x gs ents = (y.author == x.author || gs.any fun g => everB ents g y.author)) := by show _ = _; unfold countsB; rw [ht]; simp [hd]
      cases ha : (y.author == x.author) with
      | true =>
        have hf : Hid (countsB y x gs ents = true) := by show _ = _; rw [hf0.out, ha]; rfl
        go_enter Tryz.func10, Tryz.ntmps10
        go_wp2_with fail
        go_ret
        exact ⟨ret_bool hf.out.symm, by rw [← HW.out]; exact HG.out⟩
      | false =>
        have hf : Hid (countsB y x gs ents = gs.any fun g => everB ents g y.author) := by show _ = _; rw [hf0.out, ha]; rfl
        generalize (gs.any fun g => everB ents g y.author) = res at *
        go_enter Tryz.func10, Tryz.ntmps10
        go_wp2_with fail
        rw [← HW.out]
        rw [hgv] at HC
        refine HC.out.mono ?_
        rintro e w1 ⟨rfl, hg1⟩
        go_wp2_with fail
        go_ret
        exact ⟨ret_bool hf.out.symm, HG.out.trans hg1⟩
    · have hd1 : decide (y.date < x.date) = true := by simp; omega
      have hf : Hid (countsB y x gs ents = false) := by show _ = _; unfold countsB; simp [hd]
      go_enter Tryz.func10, Tryz.ntmps10
      go_wp2_with fail
      go_ret
      exact ⟨ret_bool hf.out.symm, by rw [← HW.out]; exact HG.out⟩

def okTo (y : Canc) (x : Rw) (gs : List ByteArray) (ents : List (Dfn × List Aut)) (k : Nat) : Bool := y.author == x.author || anyTo gs (fun g => everB ents g y.author) k
theorem okTo_succ (y : Canc) (x : Rw) (gs : List ByteArray) (ents : List (Dfn × List Aut)) (k : Nat) (h : k < gs.length) : okTo y x gs ents (k + 1) = (okTo y x gs ents k || everB ents gs[k] y.author) := by
  unfold okTo; rw [anyTo_succ gs _ k h, Bool.or_assoc]
theorem box2b (w : World) (y : Canc) (x : Rw) : ∃ W, W = (w.alloc (.cells (cancC y).toArray 40)).alloc (.cells (rwC x).toArray 52) ∧ Gr w W ∧
    W.heap[w.heap.size]? = some (.cells (cancC y).toArray 40 (0, 0)) ∧ W.heap[w.heap.size + 1]? = some (.cells (rwC x).toArray 52 (0, 0)) :=
  ⟨_, rfl, ((Gr.refl w).alloc _).alloc _, heap_alloc2_old w _ _, heap_alloc2_new w _ _⟩

end Go.Proofs.YtcjacgjeiljfgaaGreatDoor

namespace Go.Proofs.YtcjacgjeiljfgaaGreatDoor
open Go.RowKit

/-- The zero cells of a cancellation and of a row. -/
noncomputable def zCanc : List Value := Tryz.zeroCells40.toList
noncomputable def zRw : List Value := Tryz.zeroCells52.toList
@[go_sem] theorem zCanc_eq : Tryz.zeroCells40 = zCanc.toArray := by unfold zCanc; simp
@[go_sem] theorem zRw_eq : Tryz.zeroCells52 = zRw.toArray := by unfold zRw; simp
@[go_sem] theorem zCanc_len : zCanc.length = 81 := by kernel_rfl
@[go_sem] theorem zRw_len : zRw.length = 83 := by kernel_rfl

def CancsAt (w : World) (v : Value) (l : List Canc) : Prop := SlAt w v 81 (l.map cancC)
theorem CancsAt.gr {w w' : World} {v : Value} {l : List Canc} (h : CancsAt w v l) (hg : Gr w w') : CancsAt w' v l := SlAt.gr h hg
/-- The first of the least. -/
def minFrom (m : Canc) (l : List Canc) : Canc := l.foldl (fun m y => if cfC y m < 0 then y else m) m
def minTo (x : Canc) (l : List Canc) (k : Nat) : Canc := minFrom x (l.take k)
theorem minTo_succ (x : Canc) (l : List Canc) (k : Nat) (h : k < l.length) : minTo x l (k + 1) = if cfC l[k] (minTo x l k) < 0 then l[k] else minTo x l k := by
  unfold minTo minFrom; rw [List.take_succ_eq_append_getElem h, List.foldl_append]; rfl
def MinPost (m : Canc) (w : World) (e : Ending) (w' : World) : Prop := e = .returned (.agg (cancC m).toArray) ∧ Gr w w'

set_option maxRecDepth 100000 in
set_option maxHeartbeats 4000000 in
theorem minFunc (x0 : Canc) (l : List Canc) (v : Value) (w : World) (hv : CancsAt w v (x0 :: l)) (hl : l.length ≤ 1000000) :
    Calls Tryz.prog 23 #[v, .func (.func 24) #[] #[]] w (MinPost (minFrom x0 l) w) := by
  have eg : ∀ args w, (callFunc 24 args).run Tryz.prog w = .ok (.enter 24 args) w := enters_of Tryz.func24 (by kernel_rfl) rfl
  obtain ⟨a, cap, rfl, hc, hj⟩ := hv
  obtain ⟨b, o, rfl, hb, hall⟩ := slAt_block (by simp) hj
  have e1 : ((x0 :: l).map cancC).length = l.length + 1 := by simp
  rw [e1] at hc ⊢
  have hA : Hid (∀ j (hj : j < l.length + 1), hasRow w ⟨b, o + j * 81, none⟩ 81 = true ∧ rowAt w ⟨b, o + j * 81, none⟩ 81 = cancC ((x0 :: l)[j]'(by simpa using hj))) := fun j hj' => by
    obtain ⟨h1, h2⟩ := hall j (by simpa using hj')
    exact ⟨h1, by rw [h2, List.getElem_map]⟩
  obtain ⟨r0, r1⟩ := hA.out 0 (by omega)
  simp only [Nat.zero_mul, Nat.add_zero, List.getElem_cons_zero] at r0 r1
  clear hj hall e1
  have hi0 : (0 : Int) < (l.length : Int) + 1 := by omega
  go_enter Tryz.func23, Tryz.ntmps23
  go_wp2_with fail
  have hs := box2 w 40 zCanc (cancC x0)
  generalize (w.alloc (.cells zCanc.toArray 40)).alloc (.cells (cancC x0).toArray 40) = W at *
  obtain ⟨hl0, hs2, hb4, hb5⟩ := hs
  have GL := Lib.hid hl0.1
  have B4 := Lib.hid hb4; have B5 := Lib.hid hb5
  clear hl0 hs2 hb4 hb5 r0 r1
  go_loopw [6, 14, 16, 17, 18, 19, 20, 21, 22, 23, 24, 25, 26, 27, 28, 29, 30, 31] (fun i _ _ _ _ _ _ _ _ _ _ _ _ _ _ _ _ _ wr => ∃ k : Nat, k ≤ l.length ∧ i = .int .i64 (k + 1) ∧ Hid (Gr w wr) ∧ Hid (wr.heap[w.heap.size]? = some (.cells zCanc.toArray 40 (0, 0))) ∧ Hid (wr.heap[w.heap.size + 1]? = some (.cells (cancC (minTo x0 l k)).toArray 40 (0, 0)))) (fun i _ _ _ _ _ _ _ _ _ _ _ _ _ _ _ _ _ _ => l.length + 1 - (intOf i).toNat)
  case atStart => exact ⟨0, Nat.zero_le _, rfl, GL.out, B4.out, B5.out⟩
  case round =>
    obtain ⟨k, hk, rfl, hG, h4, h5⟩ := hrel
    clear GL B4 B5
    have t1 := hasRow_block h5.out 0 81 (by rw [cancC_length]; decide)
    have t2 := (rowAt_block h5.out 0 81 (by rw [cancC_length]; decide)).trans (canc_whole _)
    have t3 := freeRow_block h5.out 0 81
    have s5 := (Array.getElem?_eq_some_iff.1 h5.out).1
    by_cases hlt : k < l.length
    · obtain ⟨q1, q2⟩ := hA.out (k + 1) (by omega)
      have HS := Lib.hid (minTo_succ x0 l k hlt)
      simp only [List.getElem_cons_succ] at q2
      have u1 := (hG.out.hasRow (k := o + (k + 1) * 81) (n := 81) hb).trans q1
      have u2 := (hG.out.rowAt (k := o + (k + 1) * 81) (n := 81) hb).trans q2
      have hbw : b < wr.heap.size := Nat.lt_of_lt_of_le hb hG.out.size
      clear q1 q2
      generalize l[k] = y at *
      have hk1 : (k : Int) + 1 < (l.length : Int) + 1 := by omega
      have hk2 : (0 : Int) ≤ (k : Int) + 1 := by omega
      have hk3 : ((k : Int) + 1).toNat = k + 1 := by omega
      generalize hm : minTo x0 l k = m at *
      go_wp2_with fail
      refine wp_region_lay (by kernel_rfl) (by kernel_rfl) ?_
      repeat (go_big_quiet_step ((go_at_call 24; exact lay_call (byCmp y m _))))
      refine wpQuiet_nil ?_
      rintro _ ⟨p, rfl⟩
      have hU := (lay_lw wr p).1
      have GU := Lib.hid (hG.out.trans hU)
      have U4 := Lib.hid ((hU.block (Array.getElem?_eq_some_iff.1 h4.out).1).trans h4.out)
      have U5 := Lib.hid ((hU.block s5).trans h5.out)
      have v1 := (hU.hasRow hbw).trans u1
      have v2 := (hU.rowAt hbw).trans u2
      have hbU : b < (lw wr p).heap.size := Nat.lt_of_lt_of_le hbw hU.size
      generalize lw wr p = U at *
      clear t1 t2 t3 s5 u1 u2 hbw hU hG h4 h5
      have t1 := hasRow_block U5.out 0 81 (by rw [cancC_length]; decide)
      have t3 := freeRow_block U5.out 0 81
      by_cases hcf : cfC y m < 0
      · have hd : decide (cfC y m < 0) = true := by simpa using hcf
        have HM : Hid (minTo x0 l (k + 1) = y) := by show _ = _; rw [HS.out, if_pos hcf]
        go_wp2_with fail
        go_roundw
        case rel => exact ⟨k + 1, by omega, by go_num, Gr.setCells _ (by omega) _ _ _ GU.out, (heap_setCells_ne _ _ (by omega) _ _ _).trans U4.out, by show _ = _; rw [HM.out]; exact heap_setCells_at U5.out (by rw [cancC_length, cancC_length])⟩
        case measure => simp [intOf]; omega
      · have hd : decide (cfC y m < 0) = false := by simpa using hcf
        have HM : Hid (minTo x0 l (k + 1) = m) := by show _ = _; rw [HS.out, if_neg hcf]
        go_wp2_with fail
        go_roundw
        case rel => exact ⟨k + 1, by omega, by go_num, GU.out, U4.out, by show _ = _; rw [HM.out]; exact U5.out⟩
        case measure => simp [intOf]; omega
    · have hm : Hid (minTo x0 l k = minFrom x0 l) := by show _ = _; unfold minTo; rw [List.take_of_length_le (by omega)]
      rw [hm.out] at t2 h5
      have q1 := hasRow_block h4.out 0 81 (by rw [zCanc_len]; decide)
      have q2 := freeRow_block h4.out 0 81
      have s4 := (Array.getElem?_eq_some_iff.1 h4.out).1
      have hk1 : ¬ ((k : Int) + 1 < (l.length : Int) + 1) := by omega
      go_wp2_with fail
      have hw := heap_setCells_at (cs := cancC (minFrom x0 l)) h4.out (by rw [cancC_length, zCanc_len])
      refine bodyPost_ret (v := .agg (cancC (minFrom x0 l)).toArray) (results_cell_row rfl _ _ w.heap.size _ _ _ _ rfl hw Tryz.underlying40 rfl (by rw [List.size_toArray, cancC_length]; kernel_rfl)) rfl ?_
      exact ⟨rfl, Gr.setCells _ (Nat.le_refl _) _ _ _ hG.out⟩
end Go.Proofs.YtcjacgjeiljfgaaGreatDoor

namespace Go.Proofs.YtcjacgjeiljfgaaGreatDoor
open Go.RowKit

theorem one_int (k : IntKind) (n : Int) : (Value.int k n).oneCell' = true := rfl
attribute [local go_sem] oneB_cons oneB_nil one_int
/-- Two results, the first of them in memory. -/
theorem results_row2 {P : Program} {fn : Func} {p q : Tmp} {ty : TypeId} (h : fn.results = #[.cell p ty, .tmp q]) (tmps : Array Value) (w : World) (g : Nat) (t : TypeId) (cs : Array Value) (fr : Nat × Nat) (d : TypeDesc)
    (hp : tmps.getD p undef = .pointer (some ⟨g, 0, none⟩)) (hg : w.heap[g]? = some (.cells cs t fr))
    (hu : P.underlying ty = some d) (hd : (match d with | .struct _ | .array _ _ => true | _ => false) = true) (hi : (P.info? ty).map (·.size) = some cs.size) :
    (results fn tmps).run P w = .ok (.tuple #[.agg cs, tmps.getD q undef]) w := by
  have hp' : tmps[p]?.getD undef = .pointer (some ⟨g, 0, none⟩) := by simpa using hp
  simp [results, h, hp', asAddr, run_loadVar_row w g t ty cs fr d hg hu hd hi]

def filt (x : Rw) (gs : List ByteArray) (ents : List (Dfn × List Aut)) (l : List Canc) : List Canc := l.filter fun y => countsB y x gs ents
def byR (x : Rw) (gs : List ByteArray) (ents : List (Dfn × List Aut)) (l : List Canc) : Option Canc := match filt x gs ents l with | [] => none | y :: ys => some (minFrom y ys)
def zeroId : Id := Vector.replicate 32 0
def byId : Option Canc → Id | some m => m.id | none => zeroId
def ByPost (o : Option Canc) (w : World) (e : Ending) (w' : World) : Prop := e = .returned (.tuple #[.agg (bC (byId o)).toArray, .bool o.isSome]) ∧ Gr w w'
theorem filt_succ (x : Rw) (gs : List ByteArray) (ents : List (Dfn × List Aut)) (l : List Canc) (k : Nat) (h : k < l.length) : filt x gs ents (l.take (k + 1)) = if countsB l[k] x gs ents = true then filt x gs ents (l.take k) ++ [l[k]] else filt x gs ents (l.take k) := by
  unfold filt; rw [List.take_succ_eq_append_getElem h, List.filter_append]
  cases hb : countsB l[k] x gs ents <;> simp [hb]
theorem filt_len (x : Rw) (gs : List ByteArray) (ents : List (Dfn × List Aut)) (l : List Canc) (k : Nat) : (filt x gs ents (l.take k)).length ≤ k := by
  unfold filt; have := List.length_filter_le (fun y => countsB y x gs ents) (l.take k); have h2 := List.length_take_le k l; omega
theorem zId_eq : (bC zeroId).toArray = Array.replicate 32 (.int .u8 0) := by rfl

theorem infoCanc : ∃ z, (Tryz.prog.info? 40).map (fun i => (i.zero, i.size, i.bytes)) = some (some z, 81, 88) ∧ z.cells.size = 81 := ⟨.agg Tryz.zeroCells40, by kernel_rfl, by kernel_rfl⟩
theorem map_cancC_len (l : List Canc) : ∀ r ∈ l.map cancC, r.length = 81 := by
  intro r hr; obtain ⟨x, _, rfl⟩ := List.mem_map.1 hr; exact cancC_length x

set_option maxRecDepth 100000 in
set_option maxHeartbeats 4000000 in
theorem byC (x : Rw) (gs : List ByteArray) (l : List Canc) (v : Value) (r : Option Nat) (ents : List (Dfn × List Aut)) (w : World) (hr : RegAt w r ents) (hgs : StrsAt w x.groups gs) (hl : gs.length ≤ 1000000) (hv : CancsAt w v l) (hll : l.length ≤ 1000000) (_hx1 : oneB (rwC x) = true) :
    Calls Tryz.prog 9 #[.agg (rwC x).toArray, v, ptrV r] w (ByPost (byR x gs ents l) w) := by
  obtain ⟨a, cap, rfl, hc, hj⟩ := hv
  have e1 : (l.map cancC).length = l.length := by simp
  rw [e1] at hc ⊢
  have HJ := Lib.hid hj
  have HR := Lib.hid hr
  have HGS := Lib.hid hgs
  obtain ⟨z0, hinfo, hzs⟩ := infoCanc
  obtain ⟨i0, hi, hz0, hz1, hz2⟩ := info_parts hinfo
  have HZ := Lib.hid hzs
  obtain ⟨pr, hpr⟩ : ∃ pr, ptrV r = .pointer pr := ⟨_, rfl⟩
  have HPR := Lib.hid hpr
  rw [hpr]
  clear hj hr hgs e1 hinfo hzs hpr
  go_enter Tryz.func9, Tryz.ntmps9
  go_wp2_with fail
  go_loopw [8, 10, 14, 16, 17, 18, 19, 20, 21, 22, 23, 24, 25] (fun cv _ i _ _ _ _ _ _ _ _ _ _ wr => ∃ k : Nat, k ≤ l.length ∧ i = .int .i64 k ∧ Hid (Gr w wr) ∧ Hid (wr.heap[w.heap.size]? = some (.cells (rwC x).toArray 52 (0, 0))) ∧ Hid (wr.heap[w.heap.size + 1]? = some (.cells (bC zeroId).toArray 23 (0, 0))) ∧ Hid (wr.ownsRow (w.heap.size + 2) 40 81 cv (filt x gs ents (l.take k)).length ((filt x gs ents (l.take k)).map cancC).flatten)) (fun _ _ i _ _ _ _ _ _ _ _ _ _ _ => l.length - (intOf i).toNat)
  case atStart => exact ⟨0, Nat.zero_le _, rfl, ((Gr.refl w).alloc _).alloc _, heap_alloc2_old w _ _, by show _ = _; rw [zId_eq]; exact heap_alloc2_new w _ _, ⟨rfl, .inl ⟨rfl, rfl⟩⟩⟩
  case round =>
    obtain ⟨k, hk, rfl, hG, h3, h6, hown⟩ := hrel
    have s3 := (Array.getElem?_eq_some_iff.1 h3.out).1
    have s6 := (Array.getElem?_eq_some_iff.1 h6.out).1
    have hlen := filt_len x gs ents l k
    by_cases hlt : k < l.length
    · obtain ⟨b, o, rfl, hb, q1, q2⟩ := HJ.out k (by simpa using hlt)
      have u1 := (hG.out.hasRow hb).trans q1
      have u2 := (hG.out.rowAt hb).trans q2
      rw [List.getElem_map] at u2
      have HFS := Lib.hid (filt_succ x gs ents l k hlt)
      have hbw : b < wr.heap.size := Nat.lt_of_lt_of_le hb hG.out.size
      have hk1 : (k : Int) < (l.length : Int) := by omega
      have hk2 : (0 : Int) ≤ (k : Int) := by omega
      clear q1 q2
      generalize l[k] = y at *
      generalize filt x gs ents (l.take k) = acc at *
      have gx := (Gr.refl wr).alloc (.cells (cancC y).toArray 40)
      have hbx := heap_alloc_new wr (.cells (cancC y).toArray 40)
      have GX := Lib.hid gx
      have x3 := Lib.hid ((gx.block s3).trans h3.out)
      have x6 := Lib.hid ((gx.block s6).trans h6.out)
      have BX := Lib.hid hbx
      have t1 := hasRow_block hbx 0 81 (by rw [cancC_length]; decide)
      have t2 := (rowAt_block hbx 0 81 (by rw [cancC_length]; decide)).trans (canc_whole _)
      have t3 := hasRow_block x3.out 0 83 (by rw [rwC_length]; decide)
      have t4 := (rowAt_block x3.out 0 83 (by rw [rwC_length]; decide)).trans (rw_whole _)
      have HC := Lib.hid (countsC y x gs r ents _ (HR.out.gr (hG.out.trans gx)) (HGS.out.gr (hG.out.trans gx)) hl)
      rw [HPR.out] at HC
      clear gx hbx
      go_wp2_with fail
      refine HC.out.mono ?_
      rintro e w1 ⟨rfl, hg1⟩
      have G1 := Lib.hid (GX.out.trans hg1)
      have y3 := Lib.hid ((G1.out.block s3).trans h3.out)
      have y6 := Lib.hid ((G1.out.block s6).trans h6.out)
      have yb := Lib.hid ((hg1.block (b := wr.heap.size) (by simp)).trans BX.out)
      have O1 := Lib.hid (hown.out.kept G1.out.grownBy (by cases u8.ownBlock <;> simp))
      have GG := Lib.hid (hG.out.trans G1.out)
      have hsz1 : wr.heap.size < w1.heap.size := (Array.getElem?_eq_some_iff.1 yb.out).1
      clear t1 t2 t3 t4 hg1 HC x3 x6 BX u1 u2 hbw
      cases hcb : countsB y x gs ents with
      | false =>
        have HB : Hid (filt x gs ents (l.take (k + 1)) = acc) := by show _ = _; rw [HFS.out, if_neg (by rw [hcb]; decide)]
        clear hcb
        go_wp2_with fail
        go_roundw
        case rel => exact ⟨k + 1, by omega, by go_num, GG.out, y3.out, y6.out, by show World.ownsRow _ _ _ _ _ _ _; rw [HB.out]; exact O1.out⟩
        case measure => simp [intOf]; omega
      | true =>
        have HB : Hid (filt x gs ents (l.take (k + 1)) = acc ++ [y]) := by show _ = _; rw [HFS.out, if_pos hcb]
        clear hcb
        have t1 := hasRow_block yb.out 0 81 (by rw [cancC_length]; decide)
        have t2 := (rowAt_block yb.out 0 81 (by rw [cancC_length]; decide)).trans (canc_whole _)
        have hnews : Hid (∀ j u, (cancC y)[j]? = some u → (w1.alloc (.cells (cancC y).toArray 40)).cell? ((⟨w1.heap.size, 0, none⟩ : Addr).add j) = some u) := by
          intro j u hu
          rw [Addr.add_lit, Nat.zero_add, World.cell?_alloc_new]; simpa using hu
        have hnl : Hid ((cancC y).length = 1 * 81) := by show _ = _; rw [cancC_length]
        have h1c : Hid (∀ u ∈ cancC y, u.oneCell' = true) := fun u hu => List.all_eq_true.1 (canc_one y) u hu
        have O2 := Lib.hid (O1.out.alloc (.cells (cancC y).toArray 40))
        go_wp2_with (at_builtin; refine wpList_append_own _ rfl _ _ 53 rfl (w.heap.size + 2) 40 i0 z0 81 88 Tryz.underlying53 hi hz0 hz1 hz2 HZ.out (by decide) u8 acc.length (acc.map cancC).flatten rfl O2.out ⟨w1.heap.size, 0, none⟩ 1 1 (cancC y) rfl hnl.out hnews.out h1c.out (by unfold maxLen; omega) (by omega) (by simp; omega) ?_; intro v' w5 hown5 hgrow5 hnil5)
        go_roundw
        case rel =>
          have hbl : ∀ k', u8.ownBlock = some k' → w.heap.size + 2 ≤ k' := fun k' hk' => (O2.out.lt k' hk').1
          refine ⟨k + 1, by omega, by go_num, ?_, ?_, ?_, ?_⟩
          · exact (GG.out.alloc _).grown hgrow5 (fun k' hk' => by have := hbl k' hk'; omega)
          · exact (hgrow5.block _ (by simp; omega) (fun e => by have := hbl _ e.symm; omega)).trans ((((Gr.refl w1).alloc _).block (by omega)).trans y3.out)
          · exact (hgrow5.block _ (by simp; omega) (fun e => by have := hbl _ e.symm; omega)).trans ((((Gr.refl w1).alloc _).block (by omega)).trans y6.out)
          · show World.ownsRow _ _ _ _ _ _ _
            rw [HB.out, List.length_append, List.map_append, List.flatten_append]
            simpa using hown5
        case measure => simp [intOf]; omega
    · have hke : filt x gs ents (l.take k) = filt x gs ents l := by rw [List.take_of_length_le (by omega)]
      rw [hke] at hown hlen
      have hby : Hid (byR x gs ents l = match filt x gs ents l with | [] => none | y :: ys => some (minFrom y ys)) := rfl
      generalize filt x gs ents l = acc at *
      clear hke
      cases acc with
      | nil =>
        have hu8 : ∃ a' c', u8 = .slice a' 0 c' := by
          rcases hown.out.2 with ⟨h, _⟩ | ⟨g', cap', _, h, _⟩
          · exact ⟨_, _, h⟩
          · exact ⟨_, _, h⟩
        obtain ⟨a', c', rfl⟩ := hu8
        have q1 := hasRow_block h6.out 0 32 (by rw [bC_length]; decide)
        have q2 := freeRow_block h6.out 0 32
        have hres : Hid (byR x gs ents l = none) := hby.out
        clear hby hown
        go_wp2_with fail
        refine bodyPost_ret (results_row2 rfl _ _ (w.heap.size + 1) _ _ _ _ rfl (heap_setCells_at h6.out (by rw [bC_length]; rfl)) Tryz.underlying23 rfl (by kernel_rfl)) rfl ?_
        refine ⟨?_, Gr.setCells _ (by omega) _ _ _ hG.out⟩
        rw [hres.out]
        show _ = Ending.returned (.tuple #[.agg (bC zeroId).toArray, .bool false])
        rw [zId_eq]; rfl
      | cons y ys =>
        obtain ⟨g', cap', rfl⟩ : ∃ g' cap', u8 = .slice (some ⟨g', 0, none⟩) (ys.length + 1) cap' := by
          rcases hown.out.2 with ⟨_, h0⟩ | ⟨g', cap', _, hv, _⟩
          · simp at h0
          · exact ⟨g', cap', hv⟩
        have hres : Hid (byR x gs ents l = some (minFrom y ys)) := hby.out
        have hys : ys.length ≤ 1000000 := by simp at hlen; omega
        have HM := Lib.hid (minFunc y ys _ wr (slAt_of_owns (map_cancC_len (y :: ys)) (by rw [List.length_map]; exact hown.out)) hys)
        have hn0 : ((ys.length : Int) + 1 == 0) = false := by simp; omega
        clear hby hown hlen
        generalize minFrom y ys = m at *
        go_wp2_with fail
        refine HM.out.mono ?_
        rintro e w2 ⟨rfl, hg2⟩
        have z6 := ((hg2.trans ((Gr.refl w2).alloc (.cells (cancC m).toArray 40))).block s6).trans h6.out
        have Z6 := Lib.hid z6
        have q1 := hasRow_block z6 0 32 (by rw [bC_length]; decide)
        have q2 := freeRow_block z6 0 32
        have G2 := Lib.hid ((hG.out.trans hg2).alloc (.cells (cancC m).toArray 40))
        have s62 : w.heap.size + 1 < w2.heap.size := Nat.lt_of_lt_of_le s6 hg2.size
        clear z6 hg2 HM
        go_wp2_with fail
        have hw := heap_setCells_at (cs := bC m.id) Z6.out (by rw [bC_length, bC_length])
        refine bodyPost_ret (results_row2 rfl _ _ (w.heap.size + 1) _ _ _ _ rfl hw Tryz.underlying23 rfl (by rw [List.size_toArray, bC_length]; kernel_rfl)) rfl ?_
        exact ⟨by rw [hres.out]; rfl, Gr.setCells _ (by omega) _ _ _ G2.out⟩
end Go.Proofs.YtcjacgjeiljfgaaGreatDoor

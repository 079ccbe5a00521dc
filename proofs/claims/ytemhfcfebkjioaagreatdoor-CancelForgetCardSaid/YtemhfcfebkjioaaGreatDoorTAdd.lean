/- Tombs: New, Len, Add and Withdraws. -/
import Derived.Test.YtemhfcfebkjioaaGreatDoorTomb
import Derived.WalkSpells
import Derived.Test.YtemhfcfebkjioaaGreatDoorApp
namespace Go.Proofs.YtemhfcfebkjioaaGreatDoor
section
open Go.RowKit

/-- Tombs behind a pointer: block bt, their map in block bm. -/
def TmAt (w : World) (n bt bm : Nat) (l : List Canc) : Prop := n ≤ bt ∧ n ≤ bm ∧ w.heap[bt]? = some (.cells #[.map (some bm)] 105 (0, 0)) ∧ ∃ D, Tmb w bm l.length D l
theorem TmAt.gr {w w' : World} {n bt bm : Nat} {l : List Canc} (h : TmAt w n bt bm l) (hg : Gr w w') : TmAt w' n bt bm l := by
  obtain ⟨h1, h2, h3, D, h4⟩ := h
  exact ⟨h1, h2, (hg.block (Array.getElem?_eq_some_iff.1 h3).1).trans h3, D, h4.gr hg⟩
theorem TmAt.cell {w : World} {n bt bm : Nat} {l : List Canc} (h : TmAt w n bt bm l) : w.cell? ⟨bt, 0, none⟩ = some (.map (some bm)) := by
  obtain ⟨_, _, h3, _⟩ := h
  rw [cell_of_row w bt 0 _ _ _ h3]; rfl
def NewTPost (w : World) (e : Ending) (w' : World) : Prop := ∃ bt bm, e = .returned (.pointer (some ⟨bt, 0, none⟩)) ∧ TmAt w' w.heap.size bt bm [] ∧ Gr w w'
set_option maxRecDepth 100000 in
set_option maxHeartbeats 1000000 in
theorem newT (w : World) : Calls Tryz.prog 47 #[] w (NewTPost w) := by
  have hmm := @run_makeMap Tryz.prog
  go_enter Tryz.func47, Tryz.ntmps47
  go_wp2_with fail
  go_ret
  refine ⟨w.heap.size + 1, w.heap.size, rfl, ⟨by omega, Nat.le_refl _, ?_, .map [], ?_⟩, ((Gr.refl w).alloc _).alloc _⟩
  · exact heap_new _ _ _ (by simp)
  · exact (Tmb.made (heap_alloc_new w (.map #[] 0))).gr ((Gr.refl _).alloc _)
set_option maxRecDepth 100000 in
set_option maxHeartbeats 1000000 in
theorem lenT (n bt bm : Nat) (l : List Canc) (w : World) (h : TmAt w n bt bm l) : Calls Tryz.prog 30 #[.pointer (some ⟨bt, 0, none⟩)] w fun e w' => e = .returned (.int .i64 (l.length : Int)) ∧ w = w' := by
  have hc := h.cell
  obtain ⟨_, _, _, D, hD⟩ := h
  have hlen := hD.own.len Tryz.underlying103 3
  rw [hD.size] at hlen
  go_enter Tryz.func30, Tryz.ntmps30
  go_wp2_with fail
  go_ret
  exact ⟨rfl, rfl⟩
def AddTPost (n bt bm : Nat) (l : List Canc) (y : Canc) (w : World) (e : Ending) (w' : World) : Prop := e = .returned (.int .i64 (addErr l y)) ∧ TmAt w' n bt bm (addL l y) ∧ w.grownBy w' (some bm)
theorem AddTPost.same {n bt bm : Nat} {l : List Canc} {y : Canc} {w w' : World} {r : Int} (h : TmAt w n bt bm l) (hg : Gr w w') (hr : addErr l y = r) (h0 : r ≠ 0) : AddTPost n bt bm l y w (.returned (.int .i64 r)) w' := by
  subst hr
  refine ⟨rfl, ?_, ⟨hg.os, hg.tape, hg.output, hg.size, fun k hk _ => hg.block hk⟩⟩
  unfold addL; rw [if_neg h0]; exact h.gr hg
set_option maxRecDepth 100000 in
set_option maxHeartbeats 4000000 in
theorem addT (n bt bm : Nat) (l : List Canc) (y : Canc) (w : World) (h : TmAt w n bt bm l) (hl : l.length ≤ 1000) :
    Calls Tryz.prog 29 #[.pointer (some ⟨bt, 0, none⟩), .agg (cancC y).toArray] w (AddTPost n bt bm l y w) := by
  have HT := Lib.hid h
  have g1 := (Gr.refl w).alloc (.cells (cancC y).toArray 27)
  have h1 := h.gr g1
  have m1 := h1.cell
  obtain ⟨_, _, hbt, D, hD⟩ := id h1
  obtain ⟨dx, hlook⟩ := hD.look y.id
  have bx := heap_alloc_new w (.cells (cancC y).toArray 27)
  have hz : w.heap.size < (w.alloc (.cells (cancC y).toArray 27)).heap.size := by simp
  have hzt : bt < (w.alloc (.cells (cancC y).toArray 27)).heap.size := (Array.getElem?_eq_some_iff.1 hbt).1
  have G1 := Lib.hid g1; have H1 := Lib.hid h1; have BX := Lib.hid bx; have HD := Lib.hid hD
  clear h g1 h1 hbt bx hD
  go_enter Tryz.func29, Tryz.ntmps29
  go_wp2_with fail
  generalize hW : w.alloc (.cells (cancC y).toArray 27) = W at *
  have hl1 := hlook W.drew (Gr.refl W).drew
  have hl2 := fun o => hlook (W.alloc o).drew ((Gr.refl W).alloc o).drew
  have i1 := hasRow_block BX.out 0 32 (by rw [cancC_length]; decide)
  have i2 := (rowAt_block BX.out 0 32 (by rw [cancC_length]; decide)).trans (canc_id y)
  have ho := canc_one dx
  have HW := Lib.hid hW
  clear hlook hW
  generalize hthere : hasId l y.id = th at *
  have HTH := Lib.hid hthere
  clear hthere
  go_big_region
  have g2 := ((Gr.refl W).alloc (.cells (cancC dx).toArray 27)).drew
  have m2 := (g2.cell (p := ⟨bt, 0, none⟩) hzt).trans m1
  have b2 := (g2.block hz).trans BX.out
  have d2 := (cell_block b2 48).trans (canc_date y)
  have j1 := hasRow_block b2 0 32 (by rw [cancC_length]; decide)
  have j2 := (rowAt_block b2 0 32 (by rw [cancC_length]; decide)).trans (canc_id y)
  have j3 := hasRow_block b2 0 81 (by rw [cancC_length]; decide)
  have j4 := (rowAt_block b2 0 81 (by rw [cancC_length]; decide)).trans (canc_whole y)
  have D2 := Lib.hid (HD.out.gr g2)
  have hlen := D2.out.own.len Tryz.underlying103 3
  rw [HD.out.size] at hlen
  have hle : ((16384 : Int) ≤ (l.length : Int)) = False := by simp; omega
  have G2 := Lib.hid (G1.out.trans g2)
  have B2 := Lib.hid b2
  have hz2 : w.heap.size < ((W.alloc (.cells (cancC dx).toArray 27)).drew).heap.size := Nat.lt_of_lt_of_le hz g2.size
  have hzt2 : bt < ((W.alloc (.cells (cancC dx).toArray 27)).drew).heap.size := Nat.lt_of_lt_of_le hzt g2.size
  clear hl1 hl2 i1 i2 m1 b2 g2
  generalize (W.alloc (.cells (cancC dx).toArray 27)).drew = V at *
  by_cases hneg : y.date < 0
  · have hnd : decide (y.date < 0) = true := by simpa using hneg
    have HB : Hid (addErr l y = 13) := by show _ = _; unfold addErr dateBad; simp [hneg]
    go_wp2_with fail
    go_ret
    exact AddTPost.same HT.out G2.out HB.out (by decide)
  · have hnd : decide (y.date < 0) = false := by simpa using hneg
    by_cases hbig : 105190559 < y.date
    · have hbd : decide (105190559 < y.date) = true := by simpa using hbig
      have HB : Hid (addErr l y = 13) := by show _ = _; unfold addErr dateBad; simp [hbig]
      go_wp2_with fail
      go_ret
      exact AddTPost.same HT.out G2.out HB.out (by decide)
    · have hbd : decide (105190559 < y.date) = false := by simpa using hbig
      have HDB : Hid (dateBad y = false) := by show _ = _; unfold dateBad; rw [hnd, hbd]; rfl
      cases th with
      | true =>
        have HB : Hid (addErr l y = 7) := by show _ = _; unfold addErr; rw [HDB.out, HTH.out]; rfl
        go_wp2_with fail
        go_ret
        exact AddTPost.same HT.out G2.out HB.out (by decide)
      | false =>
        have HB : Hid (addErr l y = 0) := by show _ = _; unfold addErr; rw [HDB.out, HTH.out]; rfl
        have hnm := run_eql_map_nil (P := Tryz.prog) V 103 23 27 (some bm) Tryz.underlying103
        go_wp2_with fail
        have D3 := D2.out.gr (Gr.refl V).drew
        obtain ⟨w5, hst, ⟨D', hD'⟩, ht5⟩ := D3.store (by omega) y HTH.out
        have HT5 := Lib.hid ht5; have HD5 := Lib.hid hD'
        clear ht5 hD' D3 hlen hle
        go_big_region
        go_wp2_with fail
        go_ret
        have hT2 := HT.out.gr (G2.out.drew)
        obtain ⟨t1, t2, t3, _⟩ := hT2
        have hne : bt ≠ bm := fun e => by
          subst e
          obtain ⟨es, clock, _, _, hm, _⟩ := HT5.out
          rw [hm] at t3; cases t3
        have hgr := HT5.out.grown
        have e : addL l y = l ++ [y] := by unfold addL; rw [if_pos HB.out]
        refine ⟨by rw [HB.out]; rfl, ?_, ?_⟩
        · rw [e]
          refine ⟨t1, t2, (hgr.block bt (Array.getElem?_eq_some_iff.1 t3).1 (fun q => hne (Option.some.inj q))).trans t3, D', ?_⟩
          rw [List.length_append]; exact HD5.out
        · have hG := G2.out.drew
          exact ⟨hgr.os.trans hG.os, hgr.tape.trans hG.tape, hgr.output.trans hG.output, Nat.le_trans hG.size hgr.size, fun k hk hne => (hgr.block k (Nat.lt_of_lt_of_le hk hG.size) hne).trans (hG.block hk)⟩
end
section
open Go.RowKit
open Go.Maps (Keyed)

attribute [local go_sem] oneB_cons oneB_nil one_int
/-- What has come out of the map so far. -/
def CameRel (l : List Canc) (t : Id) (left : Lit → Bool) (acc : List Canc) : Prop :=
  (∀ k, left k = true → ∃ y ∈ l, k = kl y.id) ∧ ∀ y, y ∈ acc ↔ y ∈ l ∧ left (kl y.id) = false ∧ y.target = t
theorem came_start {w : World} {bm n : Nat} {D : DataW Value} {l : List Canc} (h : Tmb w bm n D l) (t : Id) : CameRel l t (Maps.has D) [] := by
  refine ⟨fun k hk => (h.has k).1 hk, fun y => ⟨fun hy => absurd hy (by simp), ?_⟩⟩
  rintro ⟨h1, h2, _⟩
  have := (h.has (kl y.id)).2 ⟨y, h1, rfl⟩
  rw [this] at h2; cases h2
theorem came_step {l : List Canc} {t : Id} {left : Lit → Bool} {acc : List Canc} (hap : l.Pairwise fun y y' => y.id ≠ y'.id) (h : CameRel l t left acc) {e : Canc} (he : e ∈ l) (hl : left (kl e.id) = true) (acc' : List Canc)
    (hacc : ∀ y, y ∈ acc' ↔ y ∈ acc ∨ (y = e ∧ e.target = t)) : CameRel l t (fun z => left z && !z.sameKey (kl e.id)) acc' := by
  refine ⟨fun k hk => h.1 k (by simp at hk; exact hk.1), fun y => ?_⟩
  rw [hacc, h.2]
  constructor
  · rintro (⟨h1, h2, h3⟩ | ⟨rfl, h3⟩)
    · exact ⟨h1, by simp [h2], h3⟩
    · exact ⟨he, by show (left (kl y.id) && !(kl y.id).sameKey (kl y.id)) = false; rw [sameKey_iff]; simp, h3⟩
  · rintro ⟨h1, h2, h3⟩
    simp only [Bool.and_eq_false_iff, Bool.not_eq_false'] at h2
    rcases h2 with h2 | h2
    · exact .inl ⟨h1, h2, h3⟩
    · rw [sameKey_iff] at h2
      have e1 : y = e := apart_eq hap h1 he (by simpa using h2)
      exact .inr ⟨e1, by rw [← e1]; exact h3⟩
theorem came_end {l : List Canc} {x : Rw} {left : Lit → Bool} {acc : List Canc} (h : CameRel l x.id left acc) (hl : ∀ k, left k = false) (gs : List ByteArray) (ents : List (Dfn × List Aut)) : byId (byR x gs ents acc) = byId (byR x gs ents l) ∧ (byR x gs ents acc).isSome = (byR x gs ents l).isSome := by
  rw [← byR_grp x gs ents l]
  refine byR_same x gs ents fun y => ?_
  rw [h.2]
  unfold grp
  rw [List.mem_filter]
  constructor
  · rintro ⟨h1, _, h3⟩; exact ⟨h1, by simp [h3]⟩
  · rintro ⟨h1, h3⟩; exact ⟨h1, hl _, by simpa using h3⟩
set_option maxRecDepth 100000 in
set_option maxHeartbeats 4000000 in
theorem withdrawsC (n bt bm : Nat) (l : List Canc) (x : Rw) (gs : List ByteArray) (r : Option Nat) (ents : List (Dfn × List Aut)) (w : World) (h : TmAt w n bt bm l) (hll : l.length ≤ 1000) (hr : RegAt w r ents) (hgs : StrsAt w x.groups gs) (hl : gs.length ≤ 1000000) (hone : oneB (rwC x) = true) :
    Calls Tryz.prog 25 #[.pointer (some ⟨bt, 0, none⟩), .agg (rwC x).toArray, ptrV r] w (ByPost (byR x gs ents l) w) := by
  have HT := Lib.hid h; have HR := Lib.hid hr; have HGS := Lib.hid hgs
  obtain ⟨z0, hinfo, hzs⟩ := infoCanc
  obtain ⟨i0, hi, hz0, hz1, hz2⟩ := info_parts hinfo
  have HZ := Lib.hid hzs; have HI := Lib.hid hi
  obtain ⟨pr, hpr⟩ : ∃ pr, ptrV r = .pointer pr := ⟨_, rfl⟩
  have HPR := Lib.hid hpr
  rw [hpr]
  have g2 := ((Gr.refl w).alloc (.cells (rwC x).toArray 31)).alloc (.cells #[Value.int IntKind.u8 0, Value.int IntKind.u8 0, Value.int IntKind.u8 0, Value.int IntKind.u8 0, Value.int IntKind.u8 0, Value.int IntKind.u8 0, Value.int IntKind.u8 0, Value.int IntKind.u8 0, Value.int IntKind.u8 0, Value.int IntKind.u8 0, Value.int IntKind.u8 0, Value.int IntKind.u8 0, Value.int IntKind.u8 0, Value.int IntKind.u8 0, Value.int IntKind.u8 0, Value.int IntKind.u8 0, Value.int IntKind.u8 0, Value.int IntKind.u8 0, Value.int IntKind.u8 0, Value.int IntKind.u8 0, Value.int IntKind.u8 0, Value.int IntKind.u8 0, Value.int IntKind.u8 0, Value.int IntKind.u8 0, Value.int IntKind.u8 0, Value.int IntKind.u8 0, Value.int IntKind.u8 0, Value.int IntKind.u8 0, Value.int IntKind.u8 0, Value.int IntKind.u8 0, Value.int IntKind.u8 0, Value.int IntKind.u8 0] 23)
  have hT2 := h.gr g2
  have mc := hT2.cell
  obtain ⟨_, _, _, D, hD⟩ := id hT2
  have HD := Lib.hid hD; have G2 := Lib.hid g2
  have B1 := Lib.hid (heap_alloc2_old w (.cells (rwC x).toArray 31) (.cells #[Value.int IntKind.u8 0, Value.int IntKind.u8 0, Value.int IntKind.u8 0, Value.int IntKind.u8 0, Value.int IntKind.u8 0, Value.int IntKind.u8 0, Value.int IntKind.u8 0, Value.int IntKind.u8 0, Value.int IntKind.u8 0, Value.int IntKind.u8 0, Value.int IntKind.u8 0, Value.int IntKind.u8 0, Value.int IntKind.u8 0, Value.int IntKind.u8 0, Value.int IntKind.u8 0, Value.int IntKind.u8 0, Value.int IntKind.u8 0, Value.int IntKind.u8 0, Value.int IntKind.u8 0, Value.int IntKind.u8 0, Value.int IntKind.u8 0, Value.int IntKind.u8 0, Value.int IntKind.u8 0, Value.int IntKind.u8 0, Value.int IntKind.u8 0, Value.int IntKind.u8 0, Value.int IntKind.u8 0, Value.int IntKind.u8 0, Value.int IntKind.u8 0, Value.int IntKind.u8 0, Value.int IntKind.u8 0, Value.int IntKind.u8 0] 23))
  have B2 : Hid (((w.alloc (.cells (rwC x).toArray 31)).alloc (.cells #[Value.int IntKind.u8 0, Value.int IntKind.u8 0, Value.int IntKind.u8 0, Value.int IntKind.u8 0, Value.int IntKind.u8 0, Value.int IntKind.u8 0, Value.int IntKind.u8 0, Value.int IntKind.u8 0, Value.int IntKind.u8 0, Value.int IntKind.u8 0, Value.int IntKind.u8 0, Value.int IntKind.u8 0, Value.int IntKind.u8 0, Value.int IntKind.u8 0, Value.int IntKind.u8 0, Value.int IntKind.u8 0, Value.int IntKind.u8 0, Value.int IntKind.u8 0, Value.int IntKind.u8 0, Value.int IntKind.u8 0, Value.int IntKind.u8 0, Value.int IntKind.u8 0, Value.int IntKind.u8 0, Value.int IntKind.u8 0, Value.int IntKind.u8 0, Value.int IntKind.u8 0, Value.int IntKind.u8 0, Value.int IntKind.u8 0, Value.int IntKind.u8 0, Value.int IntKind.u8 0, Value.int IntKind.u8 0, Value.int IntKind.u8 0] 23)).heap[w.heap.size + 1]? = some (.cells (bC zeroId).toArray 23 (0, 0))) := heap_alloc2_new w _ _
  clear h hr hgs hinfo hzs hi hpr g2 hT2 hD
  go_enter Tryz.func25, Tryz.ntmps25
  go_wp2_with (at_range; refine wpList_range_own _ rfl _ 103 rfl 23 27 kId Tryz.underlying103 cR bm l.length D rfl HD.out.own ?_; intro w0 hrg0 hg0 hs0)
  go_frame
  have HP := Lib.hid (came_start HD.out x.id)
  have HS := Lib.hid HD.out.size
  have G0 := Lib.hid (Gr.of_grownBy hg0)
  have HR0 := Lib.hid hrg0
  have HS0 := Lib.hid hs0
  clear hrg0 hg0 hs0 mc
  generalize (w.alloc (.cells (rwC x).toArray 31)).alloc (.cells #[Value.int IntKind.u8 0, Value.int IntKind.u8 0, Value.int IntKind.u8 0, Value.int IntKind.u8 0, Value.int IntKind.u8 0, Value.int IntKind.u8 0, Value.int IntKind.u8 0, Value.int IntKind.u8 0, Value.int IntKind.u8 0, Value.int IntKind.u8 0, Value.int IntKind.u8 0, Value.int IntKind.u8 0, Value.int IntKind.u8 0, Value.int IntKind.u8 0, Value.int IntKind.u8 0, Value.int IntKind.u8 0, Value.int IntKind.u8 0, Value.int IntKind.u8 0, Value.int IntKind.u8 0, Value.int IntKind.u8 0, Value.int IntKind.u8 0, Value.int IntKind.u8 0, Value.int IntKind.u8 0, Value.int IntKind.u8 0, Value.int IntKind.u8 0, Value.int IntKind.u8 0, Value.int IntKind.u8 0, Value.int IntKind.u8 0, Value.int IntKind.u8 0, Value.int IntKind.u8 0, Value.int IntKind.u8 0, Value.int IntKind.u8 0] 23) = W2 at *
  have zb1 : w.heap.size < W2.heap.size := (Array.getElem?_eq_some_iff.1 B1.out).1
  have zb2 : w.heap.size + 1 < W2.heap.size := (Array.getElem?_eq_some_iff.1 B2.out).1
  go_loopw [8, 10, 19, 20, 21, 22, 23, 24, 25, 26, 27, 28, 29, 30, 31] (fun v _ _ _ _ _ _ _ _ _ _ _ _ _ _ wr => ∃ left cnt acc, Hid (wr.ranges Tryz.prog 23 cR bm W2.heap.size l.length D left cnt) ∧ Hid (wr.ownsRow (W2.heap.size + 1) 27 81 v acc.length (acc.map cancC).flatten) ∧ Hid (CameRel l x.id left acc) ∧ acc.length + cnt ≤ l.length ∧ Hid (Gr W2 wr) ∧ Hid (W2.heap.size + 1 ≤ wr.heap.size)) (fun _ _ _ _ _ _ _ _ _ _ _ _ _ _ _ wr => wr.rangeLeft bm W2.heap.size)
  case atStart => exact ⟨_, _, [], HR0.out, ⟨rfl, .inl ⟨rfl, rfl⟩⟩, HP.out, by rw [HS.out]; simp, G0.out, by show _ ≤ _; rw [HS0.out]; exact Nat.le_refl _⟩
  case round =>
    obtain ⟨left, cnt, acc, hrg, hown, hcame, hcnt, hG, hsz⟩ := hrel
    clear HP HS G0 HR0 HS0
    have bx := (hG.out.block zb1).trans B1.out
    have bz := (hG.out.block zb2).trans B2.out
    have y1 : w.heap.size < wr.heap.size := (Array.getElem?_eq_some_iff.1 bx).1
    have y2 : w.heap.size + 1 < wr.heap.size := (Array.getElem?_eq_some_iff.1 bz).1
    have BX := Lib.hid bx; have BZ := Lib.hid bz
    clear bx bz
    go_wp2_with (at_next; refine wpList_next_ranges _ rfl _ rfl 23 kId cR (fun v : Value => v) (fun d : Canc => .agg (cancC d).toArray) (fun key _ _ => ⟨key, rfl⟩) (fun _ _ h => cR_inv h) bm W2.heap.size l.length D left cnt rfl hrg.out ?_ ?_)
    · intro hc0 hl0
      have HE := Lib.hid (came_end hcame.out hl0 gs ents)
      have hCA : CancsAt wr u8 acc := slAt_of_owns (map_cancC_len acc) (by rw [List.length_map]; exact hown.out)
      have HB := Lib.hid (byC x gs acc u8 r ents wr (HR.out.gr (G2.out.trans hG.out)) (HGS.out.gr (G2.out.trans hG.out)) hl hCA (by omega) hone)
      rw [HPR.out] at HB
      have r1 := hasRow_block BX.out 0 83 (by rw [rwC_length]; decide)
      have r2 := (rowAt_block BX.out 0 83 (by rw [rwC_length]; decide)).trans (rw_whole x)
      obtain ⟨oa, oc, hov, _⟩ := owns_slice hown.out
      subst hov
      clear hc0 hl0 hCA hown hrg hcame
      generalize hbo : byR x gs ents acc = bo at *
      generalize hbo2 : byR x gs ents l = bo2 at *
      have HE1 := Lib.hid HE.out
      clear hbo hbo2
      go_wp2_with fail
      refine HB.out.mono ?_
      rintro e w4 ⟨rfl, hg4⟩
      have z6 := (hg4.block y2).trans BZ.out
      have Z6 := Lib.hid z6
      have q1 := hasRow_block z6 0 32 (by rw [bC_length]; decide)
      have q2 := freeRow_block z6 0 32
      have G4 := Lib.hid ((G2.out.trans hG.out).trans hg4)
      clear z6 hg4 HB r1 r2
      go_wp2_with fail
      have hw := heap_setCells_at (cs := bC (byId bo)) Z6.out (by rw [bC_length, bC_length])
      refine bodyPost_ret (results_row2 rfl _ _ (w.heap.size + 1) _ _ _ _ rfl hw Tryz.underlying23 rfl (by rw [List.size_toArray, bC_length]; kernel_rfl)) rfl ?_
      refine ⟨?_, Gr.setCells _ (by omega) _ _ _ G4.out⟩
      rw [← HE1.out.1, ← HE1.out.2]; rfl
    · intro key c k0 yd yp w1 cnt1 hkey hlx hv hat hrg1 hlt hg1 hs1 hen
      obtain ⟨en, hmem, rfl⟩ := hcame.out.1 k0 hlx
      obtain rfl : c = en := by
        have h1 := hat (.held undef)
        have h2 : yd = .held (.agg (cancC c).toArray) := cR_eq hv
        rw [HD.out.elem en hmem, h2] at h1
        injection h1 with h1
        exact cancC_inj (List.toArray_inj (Value.agg.inj h1)).symm
      have HMEM := Lib.hid hmem
      have HLX := Lib.hid hlx
      have hne : Hid (u8.ownBlock = none ∨ u8.ownBlock ≠ some W2.heap.size) := by
        show _ ∨ _
        cases hb : u8.ownBlock with
        | none => exact .inl rfl
        | some k => exact .inr (fun e => by have := (hown.out.lt k hb).1; injection e with e; omega)
      have G1 := Lib.hid (hG.out.grown hg1 (fun k hk => by injection hk with hk; omega))
      have O1 := Lib.hid (hown.out.kept hg1 hne.out)
      have R1 := Lib.hid hrg1
      have SZ1 : Hid (W2.heap.size + 1 ≤ w1.heap.size) := by show _ ≤ _; rw [hs1]; exact hsz.out
      have hcl : Hid (cnt1 < cnt) := hlt
      have hml : wr.rangeLeft bm W2.heap.size = cnt := hrg.out.left_eq
      have HML := Lib.hid hml
      clear hml hkey hlx hv hat hrg1 hlt hg1 hs1 hmem hown hrg hsz
      have gb := (Gr.refl w1).alloc (.cells (cancC c).toArray 27)
      have bc := heap_alloc_new w1 (.cells (cancC c).toArray 27)
      have bx1 := ((G1.out.trans gb).block zb1).trans B1.out
      have f1 := hasRow_block bc 49 32 (by rw [cancC_length]; decide)
      have f2 := (rowAt_block bc 49 32 (by rw [cancC_length]; decide)).trans (canc_target c)
      have f3 := hasRow_block bx1 0 32 (by rw [rwC_length]; decide)
      have f4 := (rowAt_block bx1 0 32 (by rw [rwC_length]; decide)).trans (rw_id x)
      have f5 := hasRow_block bc 0 81 (by rw [cancC_length]; decide)
      have f6 := (rowAt_block bc 0 81 (by rw [cancC_length]; decide)).trans (canc_whole c)
      have GB := Lib.hid (G1.out.trans gb)
      have RB := Lib.hid (R1.out.alloc (.cells (cancC c).toArray 27))
      have OB := Lib.hid (O1.out.alloc (.cells (cancC c).toArray 27))
      have SB : Hid (W2.heap.size + 1 ≤ (w1.alloc (.cells (cancC c).toArray 27)).heap.size) := Nat.le_trans SZ1.out gb.size
      have zw1 : w.heap.size < w1.heap.size := Nat.lt_of_lt_of_le zb1 G1.out.size
      clear gb bc bx1
      cases htx : (c.target == x.id) with
      | false =>
        have HA : Hid (¬ c.target = x.id) := by show ¬ _; simpa using htx
        go_wp2_with fail
        go_roundw
        case rel => exact ⟨_, _, acc, RB.out, OB.out, came_step HD.out.apart hcame.out HMEM.out HLX.out acc (fun y => ⟨.inl, fun h => h.elim id fun q => absurd q.2 HA.out⟩), by have := hcl.out; omega, GB.out, SB.out⟩
        case measure => rw [RB.out.left_eq, HML.out]; exact hcl.out
      | true =>
        have HA : Hid (c.target = x.id) := by show _ = _; simpa using htx
        have hnews : Hid (∀ j u, (cancC c)[j]? = some u → ((w1.alloc (.cells (cancC c).toArray 27)).alloc (.cells (cancC c).toArray 27)).cell? ((⟨(w1.alloc (.cells (cancC c).toArray 27)).heap.size, 0, none⟩ : Addr).add j) = some u) := by
          intro j u hu
          rw [World.size_alloc, Addr.add_lit, Nat.zero_add, World.cell?_alloc_at _ _ _ _ (by simp)]; simpa using hu
        rw [World.size_alloc] at hnews
        have hnl : Hid ((cancC c).length = 1 * 81) := by show _ = _; rw [cancC_length]
        have h1c : Hid (∀ u ∈ cancC c, u.oneCell' = true) := fun u hu => List.all_eq_true.1 (canc_one c) u hu
        have O4 := Lib.hid (OB.out.alloc (.cells (cancC c).toArray 27))
        have R4 := Lib.hid (RB.out.alloc (.cells (cancC c).toArray 27))
        have hcl' := hcl.out
        go_wp2_with (at_builtin; refine wpList_append_own _ rfl _ _ 40 rfl (W2.heap.size + 1) 27 i0 z0 81 88 Tryz.underlying40 HI.out hz0 hz1 hz2 HZ.out (by decide) u8 acc.length (acc.map cancC).flatten rfl O4.out ⟨w1.heap.size + 1, 0, none⟩ 1 1 (cancC c) rfl hnl.out hnews.out h1c.out (by unfold maxLen; omega) (by omega) (by have := SZ1.out; simp; omega) ?_; intro v' w5 hown5 hgrow5 hnil5)
        have hr' : Hid (u8.ownBlock ≠ some W2.heap.size) := by
          intro hb; have := (O4.out.lt _ hb).1; omega
        have hbm : Hid (u8.ownBlock ≠ some bm) := own_ne_map O4.out R4.out.owns
        go_roundw
        case rel =>
          refine ⟨_, _, acc ++ [c], R4.out.kept hgrow5 (fun e => hbm.out e.symm) (fun e => hr'.out e.symm), ?_, came_step HD.out.apart hcame.out HMEM.out HLX.out _ (fun y => by rw [List.mem_append, List.mem_singleton]; exact ⟨fun h => h.imp id fun q => ⟨q, HA.out⟩, fun h => h.imp id fun q => q.1⟩), by rw [List.length_append]; simp; omega, ?_, ?_⟩
          · show World.ownsRow _ _ _ _ _ _ _
            rw [List.length_append, List.map_append, List.flatten_append]
            simpa using hown5
          · exact (GB.out.alloc _).grown hgrow5 (fun k hk => by have := (O4.out.lt k hk).1; omega)
          · have h1 := hgrow5.size; have h2 := SZ1.out; simp at h1; show _ ≤ _; omega
        case measure => rw [(R4.out.kept hgrow5 (fun e => hbm.out e.symm) (fun e => hr'.out e.symm)).left_eq, HML.out]; exact hcl.out
end
end Go.Proofs.YtemhfcfebkjioaaGreatDoor

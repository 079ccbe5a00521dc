/- cancel.By: what it returns. -/
import Derived.Test.YtemhfcfebkjioaaGreatDoorMin
namespace Go.Proofs.YtemhfcfebkjioaaGreatDoor
open Go.RowKit

theorem one_int (k : IntKind) (n : Int) : (Value.int k n).oneCell' = true := rfl
attribute [local go_sem] oneB_cons oneB_nil one_int
/-- Two results, the first of them in memory. -/
theorem results_row2 {P : Program} {fn : Func} {p q : Tmp} {ty : TypeId} (h : fn.results = #[.cell p ty, .tmp q]) (tmps : Array Value) (w : World) (g : Nat) (t : TypeId) (cs : Array Value) (fr : Nat × Nat) (d : TypeDesc)
    (hp : tmps.getD p undef = .pointer (some ⟨g, 0, none⟩)) (hg : w.heap[g]? = some (.cells cs t fr))
    (hu : P.underlying ty = some d) (hd : (match d with | .struct _ | .array _ _ => true | _ => false) = true) (hi : (P.info? ty).map (·.size) = some cs.size) :
    (results fn tmps).run P w = .ok (.tuple #[.agg cs, tmps.getD q undef]) w := by
  have hp' : tmps[p]?.getD undef = .pointer (some ⟨g, 0, none⟩) := by simpa using hp
  simp [results, h, hp', asAddr, run_loadVar_row w g t ty cs fr d hg hu hd hi]

def filt (x : Rw) (gs : List ByteArray) (ents : List (Dfn × List Aut)) (l : List Canc) : List Canc := l.filter fun y => countsB y x gs ents
def byR (x : Rw) (gs : List ByteArray) (ents : List (Dfn × List Aut)) (l : List Canc) : Option Canc := match filt x gs ents l with | [] => none | y :: ys => some (minFrom y ys)
def zeroId : Id := Vector.replicate 32 0
def byId : Option Canc → Id | some m => m.id | none => zeroId
def ByPost (o : Option Canc) (w : World) (e : Ending) (w' : World) : Prop := e = .returned (.tuple #[.agg (bC (byId o)).toArray, .bool o.isSome]) ∧ Gr w w'
theorem filt_succ (x : Rw) (gs : List ByteArray) (ents : List (Dfn × List Aut)) (l : List Canc) (k : Nat) (h : k < l.length) : filt x gs ents (l.take (k + 1)) = if countsB l[k] x gs ents = true then filt x gs ents (l.take k) ++ [l[k]] else filt x gs ents (l.take k) := by
  unfold filt; rw [List.take_succ_eq_append_getElem h, List.filter_append]
  cases hb : countsB l[k] x gs ents <;> simp [hb]
theorem filt_len (x : Rw) (gs : List ByteArray) (ents : List (Dfn × List Aut)) (l : List Canc) (k : Nat) : (filt x gs ents (l.take k)).length ≤ k := by
  unfold filt; have := List.length_filter_le (fun y => countsB y x gs ents) (l.take k); have h2 := List.length_take_le k l; omega
theorem zId_eq : (bC zeroId).toArray = Array.replicate 32 (.int .u8 0) := by rfl

theorem infoCanc : ∃ z, (Tryz.prog.info? 27).map (fun i => (i.zero, i.size, i.bytes)) = some (some z, 81, 88) ∧ z.cells.size = 81 := ⟨.agg Tryz.zeroCells27, by kernel_rfl, by kernel_rfl⟩
theorem map_cancC_len (l : List Canc) : ∀ r ∈ l.map cancC, r.length = 81 := by
  intro r hr; obtain ⟨x, _, rfl⟩ := List.mem_map.1 hr; exact cancC_length x

set_option maxRecDepth 100000 in
set_option maxHeartbeats 4000000 in
theorem byC (x : Rw) (gs : List ByteArray) (l : List Canc) (v : Value) (r : Option Nat) (ents : List (Dfn × List Aut)) (w : World) (hr : RegAt w r ents) (hgs : StrsAt w x.groups gs) (hl : gs.length ≤ 1000000) (hv : CancsAt w v l) (hll : l.length ≤ 1000000) (_hx1 : oneB (rwC x) = true) :
    Calls Tryz.prog 17 #[.agg (rwC x).toArray, v, ptrV r] w (ByPost (byR x gs ents l) w) := by
  obtain ⟨a, cap, rfl, hc, hj⟩ := hv
  have e1 : (l.map cancC).length = l.length := by simp
  rw [e1] at hc ⊢
  have HJ := Lib.hid hj
  have HR := Lib.hid hr
  have HGS := Lib.hid hgs
  obtain ⟨z0, hinfo, hzs⟩ := infoCanc
  obtain ⟨i0, hi, hz0, hz1, hz2⟩ := info_parts hinfo
  have HZ := Lib.hid hzs
  obtain ⟨pr, hpr⟩ : ∃ pr, ptrV r = .pointer pr := ⟨_, rfl⟩
  have HPR := Lib.hid hpr
  rw [hpr]
  clear hj hr hgs e1 hinfo hzs hpr
  go_enter Tryz.func17, Tryz.ntmps17
  go_wp2_with fail
  go_loopw [8, 10, 14, 16, 17, 18, 19, 20, 21, 22, 23, 24, 25] (fun cv _ i _ _ _ _ _ _ _ _ _ _ wr => ∃ k : Nat, k ≤ l.length ∧ i = .int .i64 k ∧ Hid (Gr w wr) ∧ Hid (wr.heap[w.heap.size]? = some (.cells (rwC x).toArray 31 (0, 0))) ∧ Hid (wr.heap[w.heap.size + 1]? = some (.cells (bC zeroId).toArray 23 (0, 0))) ∧ Hid (wr.ownsRow (w.heap.size + 2) 27 81 cv (filt x gs ents (l.take k)).length ((filt x gs ents (l.take k)).map cancC).flatten)) (fun _ _ i _ _ _ _ _ _ _ _ _ _ _ => l.length - (intOf i).toNat)
  case atStart => exact ⟨0, Nat.zero_le _, rfl, ((Gr.refl w).alloc _).alloc _, heap_alloc2_old w _ _, by show _ = _; rw [zId_eq]; exact heap_alloc2_new w _ _, ⟨rfl, .inl ⟨rfl, rfl⟩⟩⟩
  case round =>
    obtain ⟨k, hk, rfl, hG, h3, h6, hown⟩ := hrel
    have s3 := (Array.getElem?_eq_some_iff.1 h3.out).1
    have s6 := (Array.getElem?_eq_some_iff.1 h6.out).1
    have hlen := filt_len x gs ents l k
    by_cases hlt : k < l.length
    · obtain ⟨b, o, rfl, hb, q1, q2⟩ := HJ.out k (by simpa using hlt)
      have u1 := (hG.out.hasRow hb).trans q1
      have u2 := (hG.out.rowAt hb).trans q2
      rw [List.getElem_map] at u2
      have HFS := Lib.hid (filt_succ x gs ents l k hlt)
      have hbw : b < wr.heap.size := Nat.lt_of_lt_of_le hb hG.out.size
      have hk1 : (k : Int) < (l.length : Int) := by omega
      have hk2 : (0 : Int) ≤ (k : Int) := by omega
      clear q1 q2
      generalize l[k] = y at *
      generalize filt x gs ents (l.take k) = acc at *
      have gx := (Gr.refl wr).alloc (.cells (cancC y).toArray 27)
      have hbx := heap_alloc_new wr (.cells (cancC y).toArray 27)
      have GX := Lib.hid gx
      have x3 := Lib.hid ((gx.block s3).trans h3.out)
      have x6 := Lib.hid ((gx.block s6).trans h6.out)
      have BX := Lib.hid hbx
      have t1 := hasRow_block hbx 0 81 (by rw [cancC_length]; decide)
      have t2 := (rowAt_block hbx 0 81 (by rw [cancC_length]; decide)).trans (canc_whole _)
      have t3 := hasRow_block x3.out 0 83 (by rw [rwC_length]; decide)
      have t4 := (rowAt_block x3.out 0 83 (by rw [rwC_length]; decide)).trans (rw_whole _)
      have HC := Lib.hid (countsC y x gs r ents _ (HR.out.gr (hG.out.trans gx)) (HGS.out.gr (hG.out.trans gx)) hl)
      rw [HPR.out] at HC
      clear gx hbx
      go_wp2_with fail
      refine HC.out.mono ?_
      rintro e w1 ⟨rfl, hg1⟩
      have G1 := Lib.hid (GX.out.trans hg1)
      have y3 := Lib.hid ((G1.out.block s3).trans h3.out)
      have y6 := Lib.hid ((G1.out.block s6).trans h6.out)
      have yb := Lib.hid ((hg1.block (b := wr.heap.size) (by simp)).trans BX.out)
      have O1 := Lib.hid (hown.out.kept G1.out.grownBy (by cases u8.ownBlock <;> simp))
      have GG := Lib.hid (hG.out.trans G1.out)
      have hsz1 : wr.heap.size < w1.heap.size := (Array.getElem?_eq_some_iff.1 yb.out).1
      clear t1 t2 t3 t4 hg1 HC x3 x6 BX u1 u2 hbw
      cases hcb : countsB y x gs ents with
      | false =>
        have HB : Hid (filt x gs ents (l.take (k + 1)) = acc) := by show _ = _; rw [HFS.out, if_neg (by rw [hcb]; decide)]
        clear hcb
        go_wp2_with fail
        go_roundw
        case rel => exact ⟨k + 1, by omega, by go_num, GG.out, y3.out, y6.out, by show World.ownsRow _ _ _ _ _ _ _; rw [HB.out]; exact O1.out⟩
        case measure => simp [intOf]; omega
      | true =>
        have HB : Hid (filt x gs ents (l.take (k + 1)) = acc ++ [y]) := by show _ = _; rw [HFS.out, if_pos hcb]
        clear hcb
        have t1 := hasRow_block yb.out 0 81 (by rw [cancC_length]; decide)
        have t2 := (rowAt_block yb.out 0 81 (by rw [cancC_length]; decide)).trans (canc_whole _)
        have hnews : Hid (∀ j u, (cancC y)[j]? = some u → (w1.alloc (.cells (cancC y).toArray 27)).cell? ((⟨w1.heap.size, 0, none⟩ : Addr).add j) = some u) := by
          intro j u hu
          rw [Addr.add_lit, Nat.zero_add, World.cell?_alloc_new]; simpa using hu
        have hnl : Hid ((cancC y).length = 1 * 81) := by show _ = _; rw [cancC_length]
        have h1c : Hid (∀ u ∈ cancC y, u.oneCell' = true) := fun u hu => List.all_eq_true.1 (canc_one y) u hu
        have O2 := Lib.hid (O1.out.alloc (.cells (cancC y).toArray 27))
        go_wp2_with (at_builtin; refine wpList_append_own _ rfl _ _ 40 rfl (w.heap.size + 2) 27 i0 z0 81 88 Tryz.underlying40 hi hz0 hz1 hz2 HZ.out (by decide) u8 acc.length (acc.map cancC).flatten rfl O2.out ⟨w1.heap.size, 0, none⟩ 1 1 (cancC y) rfl hnl.out hnews.out h1c.out (by unfold maxLen; omega) (by omega) (by simp; omega) ?_; intro v' w5 hown5 hgrow5 hnil5)
        go_roundw
        case rel =>
          have hbl : ∀ k', u8.ownBlock = some k' → w.heap.size + 2 ≤ k' := fun k' hk' => (O2.out.lt k' hk').1
          refine ⟨k + 1, by omega, by go_num, ?_, ?_, ?_, ?_⟩
          · exact (GG.out.alloc _).grown hgrow5 (fun k' hk' => by have := hbl k' hk'; omega)
          · exact (hgrow5.block _ (by simp; omega) (fun e => by have := hbl _ e.symm; omega)).trans ((((Gr.refl w1).alloc _).block (by omega)).trans y3.out)
          · exact (hgrow5.block _ (by simp; omega) (fun e => by have := hbl _ e.symm; omega)).trans ((((Gr.refl w1).alloc _).block (by omega)).trans y6.out)
          · show World.ownsRow _ _ _ _ _ _ _
            rw [HB.out, List.length_append, List.map_append, List.flatten_append]
            simpa using hown5
        case measure => simp [intOf]; omega
    · have hke : filt x gs ents (l.take k) = filt x gs ents l := by rw [List.take_of_length_le (by omega)]
      rw [hke] at hown hlen
      have hby : Hid (byR x gs ents l = match filt x gs ents l with | [] => none | y :: ys => some (minFrom y ys)) := rfl
      generalize filt x gs ents l = acc at *
      clear hke
      cases acc with
      | nil =>
        have hu8 : ∃ a' c', u8 = .slice a' 0 c' := by
          rcases hown.out.2 with ⟨h, _⟩ | ⟨g', cap', _, h, _⟩
          · exact ⟨_, _, h⟩
          · exact ⟨_, _, h⟩
        obtain ⟨a', c', rfl⟩ := hu8
        have q1 := hasRow_block h6.out 0 32 (by rw [bC_length]; decide)
        have q2 := freeRow_block h6.out 0 32
        have hres : Hid (byR x gs ents l = none) := hby.out
        clear hby hown
        go_wp2_with fail
        refine bodyPost_ret (results_row2 rfl _ _ (w.heap.size + 1) _ _ _ _ rfl (heap_setCells_at h6.out (by rw [bC_length]; rfl)) Tryz.underlying23 rfl (by kernel_rfl)) rfl ?_
        refine ⟨?_, Gr.setCells _ (by omega) _ _ _ hG.out⟩
        rw [hres.out]
        show _ = Ending.returned (.tuple #[.agg (bC zeroId).toArray, .bool false])
        rw [zId_eq]; rfl
      | cons y ys =>
        obtain ⟨g', cap', rfl⟩ : ∃ g' cap', u8 = .slice (some ⟨g', 0, none⟩) (ys.length + 1) cap' := by
          rcases hown.out.2 with ⟨_, h0⟩ | ⟨g', cap', _, hv, _⟩
          · simp at h0
          · exact ⟨g', cap', hv⟩
        have hres : Hid (byR x gs ents l = some (minFrom y ys)) := hby.out
        have hys : ys.length ≤ 1000000 := by simp at hlen; omega
        have HM := Lib.hid (minFunc y ys _ wr (slAt_of_owns (map_cancC_len (y :: ys)) (by rw [List.length_map]; exact hown.out)) hys)
        have hn0 : ((ys.length : Int) + 1 == 0) = false := by simp; omega
        clear hby hown hlen
        generalize minFrom y ys = m at *
        go_wp2_with fail
        refine HM.out.mono ?_
        rintro e w2 ⟨rfl, hg2⟩
        have z6 := ((hg2.trans ((Gr.refl w2).alloc (.cells (cancC m).toArray 27))).block s6).trans h6.out
        have Z6 := Lib.hid z6
        have q1 := hasRow_block z6 0 32 (by rw [bC_length]; decide)
        have q2 := freeRow_block z6 0 32
        have G2 := Lib.hid ((hG.out.trans hg2).alloc (.cells (cancC m).toArray 27))
        have s62 : w.heap.size + 1 < w2.heap.size := Nat.lt_of_lt_of_le s6 hg2.size
        clear z6 hg2 HM
        go_wp2_with fail
        have hw := heap_setCells_at (cs := bC m.id) Z6.out (by rw [bC_length, bC_length])
        refine bodyPost_ret (results_row2 rfl _ _ (w.heap.size + 1) _ _ _ _ rfl hw Tryz.underlying23 rfl (by rw [List.size_toArray, bC_length]; kernel_rfl)) rfl ?_
        exact ⟨by rw [hres.out]; rfl, Gr.setCells _ (by omega) _ _ _ G2.out⟩
end Go.Proofs.YtemhfcfebkjioaaGreatDoor

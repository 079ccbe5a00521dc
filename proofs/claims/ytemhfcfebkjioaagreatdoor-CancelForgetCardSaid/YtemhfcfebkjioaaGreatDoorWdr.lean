/- cancel.Withdrawn: what it returns. -/
import Derived.Test.YtemhfcfebkjioaaGreatDoorGrp
import Derived.Test.YtemhfcfebkjioaaGreatDoorComp
import Derived.Test.YtemhfcfebkjioaaGreatDoorRIn
import Derived.Deep.RegionHeld3
namespace Go.Proofs.YtemhfcfebkjioaaGreatDoor
open Go.RowKit

attribute [local go_sem] oneB_cons oneB_nil one_int
def WdrPost (ents : List (Dfn × List Aut)) (l : List Canc) (rows : List (Rw × List ByteArray)) (w : World) (e : Ending) (w' : World) : Prop :=
  ∃ a n c s, e = .returned (.tuple #[.slice a n c, .int .i64 0]) ∧ IdsAt w' (.slice a n c) s ∧ Inc s ∧ (∀ i, i ∈ s ↔ i ∈ goneIds ents l rows) ∧ s.length ≤ 1000000 ∧ Gr w w'
theorem there_block {w : World} {b n : Nat} {cs : Array Value} {T : TypeId} (h : w.heap[b]? = some (.cells cs T (0, 0))) (hn : n ≤ cs.size) : w.there b 0 n := by
  intro j hj
  rw [Nat.zero_add]
  refine ⟨?_, by simp [World.frozen?, h]⟩
  rw [cell_of_row w b j cs T (0, 0) h, Array.getElem?_eq_getElem (by omega)]; rfl
theorem comp_mem (s : List Id) (x : Id) : x ∈ Lib.compactUpTo s.toArray s.toArray.size ↔ x ∈ s := by
  unfold Lib.compactUpTo
  simp only [List.mem_map, List.mem_filter, List.mem_range]
  constructor
  · rintro ⟨j, ⟨hj, _⟩, rfl⟩
    rw [getElem!_pos s.toArray j hj]
    simp
  · intro hx
    obtain ⟨j, hj, rfl⟩ := List.getElem_of_mem hx
    have key : ∀ j (hj : j < s.toArray.size), ∃ a, (a < s.toArray.size ∧ Lib.keeps s.toArray a = true) ∧ s.toArray[a]! = s.toArray[j]! := by
      intro j
      induction j with
      | zero => intro hj; exact ⟨0, ⟨hj, Lib.keeps_lt_one _ 0 (by omega)⟩, rfl⟩
      | succ j ih =>
        intro hj
        by_cases hk : s.toArray[j + 1]! = s.toArray[j + 1 - 1]!
        · obtain ⟨a, h1, h2⟩ := ih (by omega)
          exact ⟨a, h1, by rw [h2, hk]; rfl⟩
        · exact ⟨j + 1, ⟨hj, Lib.keeps_pos hk⟩, rfl⟩
    obtain ⟨a, h1, h2⟩ := key j (by simpa using hj)
    refine ⟨a, h1, ?_⟩
    rw [h2, getElem!_pos s.toArray j (by simpa using hj)]
    simp
theorem comp_inc (s : List Id) (hs : s.Pairwise fun a b => nm a ≤ nm b) : Inc (Lib.compactUpTo s.toArray s.toArray.size) := by
  have hle : ∀ i j, i ≤ j → j < s.toArray.size → nm s.toArray[i]! ≤ nm s.toArray[j]! := by
    intro i j hij hj
    by_cases e : i = j
    · rw [e]; exact Nat.le_refl _
    · rw [getElem!_pos s.toArray i (by omega), getElem!_pos s.toArray j hj]
      have := List.pairwise_iff_getElem.1 hs i j (by simp at hj; omega) (by simpa using hj) (by omega)
      simpa using this
  unfold Inc Lib.compactUpTo
  rw [List.pairwise_map]
  refine List.Pairwise.imp_of_mem ?_ ((List.pairwise_lt_range (n := s.toArray.size)).filter (Lib.keeps s.toArray))
  intro i j _ hj hij
  obtain ⟨hj1, hj2⟩ := List.mem_filter.1 hj
  have hjs : j < s.toArray.size := by simpa using hj1
  have h1 := hle i (j - 1) (by omega) (by omega)
  have h2 := hle (j - 1) j (by omega) hjs
  have h3 : s.toArray[j]! ≠ s.toArray[j - 1]! := by
    unfold Lib.keeps at hj2
    rcases of_decide_eq_true hj2 with h | h
    · omega
    · exact h
  have h4 : nm s.toArray[j]! ≠ nm s.toArray[j - 1]! := fun e => h3 (nm_inj e)
  omega
theorem grp_step (l : List Canc) (k : Nat) (h : k < l.length) : (fun t' => if t' = l[k].target then grp (l.take k) l[k].target ++ [l[k]] else grp (l.take k) t') = grp (l.take (k + 1)) := by
  funext t'
  rw [grp_succ l t' k h]
  by_cases e : t' = l[k].target
  · subst e; simp
  · rw [if_neg e, if_neg]; simpa using fun q => e q.symm
set_option maxRecDepth 100000 in
set_option maxHeartbeats 1000000 in
theorem compactNil (w : World) : Calls Tryz.prog 46 #[.slice none 0 0] w fun e w' => e = .returned (.slice none 0 0) ∧ w = w' := by
  go_enter Tryz.func46, Tryz.ntmps46
  go_wp2_with fail
  go_ret
  exact ⟨rfl, rfl⟩
set_option maxRecDepth 100000 in
set_option maxHeartbeats 4000000 in
theorem withdrawnC (rows : List (Rw × List ByteArray)) (vr : Value) (l : List Canc) (v : Value) (r : Option Nat) (ents : List (Dfn × List Aut)) (w : World) (hr : RegAt w r ents) (hrows : RowsAt w vr rows) (hrl : rows.length ≤ 1000) (hv : CancsAt w v l) (hll : l.length ≤ 1000) :
    Calls Tryz.prog 20 #[vr, v, ptrV r] w (WdrPost ents l rows w) := by
  have HROWS := Lib.hid hrows
  obtain ⟨⟨ra, rcap, rfl, hrc, hrj⟩, hrg⟩ := hrows
  obtain ⟨a, cap, rfl, hc, hj⟩ := hv
  have e1 : (l.map cancC).length = l.length := by simp
  have e2 : (rows.map fun x => rwC x.1).length = rows.length := by simp
  rw [e1] at hc ⊢
  rw [e2] at hrc ⊢
  have HJ := Lib.hid hj; have HRJ := Lib.hid hrj; have HR := Lib.hid hr; have HRG := Lib.hid hrg
  obtain ⟨z0, hinfo, hzs⟩ := infoCanc
  obtain ⟨i0, hi, hz0, hz1, hz2⟩ := info_parts hinfo
  have HZ := Lib.hid hzs
  obtain ⟨y0, yinfo, yzs⟩ := infoId
  obtain ⟨j0, hj0, hy0, hy1, hy2⟩ := info_parts yinfo
  have HY := Lib.hid yzs; have HJ0 := Lib.hid hj0
  obtain ⟨pr, hpr⟩ : ∃ pr, ptrV r = .pointer pr := ⟨_, rfl⟩
  have HPR := Lib.hid hpr
  rw [hpr]
  have hmm := @run_makeMap Tryz.prog
  have HMADE : Hid (Grps (w.alloc (.map #[] 0)) w.heap.size (w.heap.size + 1) 0 (.map []) (fun _ => [])) := Grps.made (heap_alloc_new w _)
  clear hj hr hrj e1 e2 hinfo hzs hpr hrg yinfo yzs hj0
  go_enter Tryz.func20, Tryz.ntmps20
  go_wp2_with fail
  clear hmm
  go_loopw [10, 27, 28, 29, 30, 31, 32, 33, 34, 35, 36, 37, 38, 39, 40] (fun _ i _ _ _ _ _ _ _ _ _ _ _ _ _ wr => ∃ k : Nat, k ≤ l.length ∧ i = .int .i64 k ∧ Hid (Gr w wr) ∧ Hid (∃ D, Grps wr w.heap.size (w.heap.size + 1) k D (grp (l.take k)))) (fun _ i _ _ _ _ _ _ _ _ _ _ _ _ _ _ => l.length - (intOf i).toNat)
  case atStart => exact ⟨0, Nat.zero_le _, rfl, (Gr.refl w).alloc _, _, HMADE.out⟩
  case round =>
    obtain ⟨k, hk, rfl, hG, hgrp⟩ := hrel
    obtain ⟨D, hgrp⟩ := hgrp.out
    by_cases hlt : k < l.length
    · obtain ⟨b, o, rfl, hb, q1, q2⟩ := HJ.out k (by simpa using hlt)
      have u1 := (hG.out.hasRow hb).trans q1
      have u2 := (hG.out.rowAt hb).trans q2
      rw [List.getElem_map] at u2
      have HST := Lib.hid (grp_step l k hlt)
      have HLEN := Lib.hid (grp_len l l[k].target k)
      have hk1 : (k : Int) < (l.length : Int) := by omega
      have hk2 : (0 : Int) ≤ (k : Int) := by omega
      clear q1 q2
      generalize l[k] = y at *
      have gx := ((Gr.refl wr).alloc (.cells (cancC y).toArray 27)).alloc (.cells (cancC y).toArray 27)
      have bx := heap_alloc_new wr (.cells (cancC y).toArray 27)
      have t1 := hasRow_block bx 0 81 (by rw [cancC_length]; decide)
      have t2 := (rowAt_block bx 0 81 (by rw [cancC_length]; decide)).trans (canc_whole _)
      have t3 := hasRow_block bx 49 32 (by rw [cancC_length]; decide)
      have t4 := (rowAt_block bx 49 32 (by rw [cancC_length]; decide)).trans (canc_target _)
      obtain ⟨sa, sm, sc, st, w1, hen, htn, ho1, hback⟩ := (hgrp.gr gx).entry (by omega) y.target
      have HTN := Lib.hid htn; have HO1 := Lib.hid ho1; have HBK := Lib.hid hback; have HGX := Lib.hid gx
      have hnews : Hid (∀ j u, (cancC y)[j]? = some u → w1.cell? ((⟨wr.heap.size + 1, 0, none⟩ : Addr).add j) = some u) := by
        intro j u hu
        have hcell : ((wr.alloc (.cells (cancC y).toArray 27)).alloc (.cells (cancC y).toArray 27)).cell? ⟨wr.heap.size + 1, j, none⟩ = some u := by
          rw [World.cell?_alloc_at _ _ _ _ (by simp)]; simpa using hu
        rw [Addr.add_lit, Nat.zero_add]
        exact (World.cell?_of_block (turn_cell htn _ _ _ hcell)).trans hcell
      have hnl : Hid ((cancC y).length = 1 * 81) := by show _ = _; rw [cancC_length]
      have h1c : Hid (∀ u ∈ cancC y, u.oneCell' = true) := fun u hu => List.all_eq_true.1 (canc_one y) u hu
      have hsz1 : Hid (w.heap.size + 1 ≤ w1.heap.size) := Nat.le_trans (by have := hgrp.own.lt; simp; omega) (Nat.le_trans gx.size htn.grown.size)
      clear gx bx htn ho1 hback hgrp
      have hlen := HLEN.out
      have HGA := Lib.hid (hG.out.trans HGX.out)
      have hs1' := hsz1.out
      go_wp2_with (at_builtin; refine wpList_append_own_at _ rfl _ _ 40 rfl (w.heap.size + 1) 27 i0 z0 81 88 Tryz.underlying40 hi hz0 hz1 hz2 HZ.out (by decide) (.slice sa sm sc) (grp (l.take k) y.target).length ((grp (l.take k) y.target).map cancC).flatten rfl HO1.out ⟨wr.heap.size + 1, 0, none⟩ 1 1 (cancC y) rfl hnl.out hnews.out h1c.out (by unfold maxLen; omega) (by omega) hs1' ?_; intro v' w5 hown5 hgrow5 hnil5 hloc5; obtain ⟨va', vc', rfl, _⟩ := owns_slice hown5; obtain ⟨w6, hst, hG6, ht6⟩ := HBK.out y w5 va' _ vc' hgrow5 (by simpa using hown5) hloc5)
      go_roundw
      case rel =>
        have g1 := HGA.out.grown HTN.out.grown (fun k' hk' => by cases hk'; exact Nat.le_refl _)
        have g2 := g1.grown hgrow5 (fun k' hk' => by have := (HO1.out.lt k' hk').1; omega)
        have g3 := g2.grown ht6.grown (fun k' hk' => by cases hk'; exact Nat.le_refl _)
        refine ⟨k + 1, by omega, by go_num, g3, ?_⟩
        have h6 := hG6
        rw [HST.out] at h6
        exact h6
      case measure => simp [intOf]; omega
    · have hke : l.take k = l := List.take_of_length_le (by omega)
      rw [hke] at hgrp
      have HGP := Lib.hid hgrp
      have hk1 : ¬ (k : Int) < (l.length : Int) := by omega
      have hws : w.heap.size < wr.heap.size := hgrp.own.lt
      clear hke hgrp HMADE
      generalize wr = wA at *
      go_wp2_with fail
      go_loopw [11, 13, 14, 15, 43, 44, 45, 46, 47, 48, 49, 50, 51, 52, 53, 54, 55, 56, 57, 58, 59, 60, 61, 62, 63] (fun ov _ _ _ i _ _ _ _ _ _ _ _ _ _ _ _ _ _ _ _ _ _ _ _ w2 => ∃ m : Nat, m ≤ rows.length ∧ i = .int .i64 m ∧ Hid (Gr wA w2) ∧ Hid (w2.ownsRow wA.heap.size 23 32 ov (goneIds ents l (rows.take m)).length ((goneIds ents l (rows.take m)).map idC).flatten)) (fun _ _ _ _ i _ _ _ _ _ _ _ _ _ _ _ _ _ _ _ _ _ _ _ _ _ => rows.length - (intOf i).toNat)
      case atStart => exact ⟨0, Nat.zero_le _, rfl, Gr.refl _, ⟨rfl, .inl ⟨rfl, rfl⟩⟩⟩
      case round =>
        obtain ⟨m, hm, rfl, hG2, hown⟩ := hrel
        have hilen := goneIds_len ents l rows m
        by_cases hltm : m < rows.length
        · obtain ⟨b, o, rfl, hb, q1, q2⟩ := HRJ.out m (by simpa using hltm)
          have GW := Lib.hid (hG.out.trans hG2.out)
          have u1 := (GW.out.hasRow hb).trans q1
          have u2 := (GW.out.rowAt hb).trans q2
          rw [List.getElem_map] at u2
          have HIS := Lib.hid (goneIds_succ ents l rows m hltm)
          obtain ⟨hg1, hg2, hg3⟩ := HRG.out rows[m] (List.getElem_mem hltm)
          have hm1 : (m : Int) < (rows.length : Int) := by omega
          have hm2 : (0 : Int) ≤ (m : Int) := by omega
          have hbw : b < wr.heap.size := Nat.lt_of_lt_of_le hb GW.out.size
          clear q1 q2
          generalize rows[m] = rx at *
          obtain ⟨x, gs⟩ := rx
          dsimp only at u1 u2 hg1 hg2 hg3
          have hgx := (Gr.refl wr).alloc (.cells (rwC x).toArray 31)
          have bx := heap_alloc_new wr (.cells (rwC x).toArray 31)
          have hzW : wr.heap.size < (wr.alloc (.cells (rwC x).toArray 31)).heap.size := by simp
          obtain ⟨sa, sm, sc, _, hos, hlook⟩ := (HGP.out.gr (hG2.out.trans hgx)).look x.id
          have hcs : CancsAt (wr.alloc (.cells (rwC x).toArray 31)) (.slice sa sm sc) (grp l x.id) := slAt_of_owns (map_cancC_len (grp l x.id)) (by rw [List.length_map]; exact hos)
          have hgl : (grp l x.id).length ≤ 1000000 := by have := List.length_filter_le (fun y : Canc => y.target == x.id) l; unfold grp; omega
          have GX := Lib.hid hgx
          have HOW := Lib.hid (hown.out.alloc (.cells (rwC x).toArray 31))
          go_wp2_with fail
          generalize hWW : wr.alloc (.cells (rwC x).toArray 31) = W at *
          have r1 := hasRow_block bx 0 83 (by rw [rwC_length]; decide)
          have r2 := (rowAt_block bx 0 83 (by rw [rwC_length]; decide)).trans (rw_whole x)
          have r3 := hasRow_block bx 0 32 (by rw [rwC_length]; decide)
          have r4 := (rowAt_block bx 0 32 (by rw [rwC_length]; decide)).trans (rw_id x)
          have hl1 := hlook W.drew (Gr.refl W).drew
          have hl2 := fun o => hlook (W.alloc o).drew ((Gr.refl W).alloc o).drew
          have HBY : Hid (∀ V, Gr W V → Calls Tryz.prog 17 #[.agg (rwC x).toArray, .slice sa sm sc, .pointer pr] V fun e w'' => e = .returned (.tuple #[.agg (bC (byId (byR x gs ents (grp l x.id)))).toArray, .bool (byR x gs ents (grp l x.id)).isSome]) ∧ Gr V w'') := fun V hV => by
            have h := byC x gs (grp l x.id) (.slice sa sm sc) r ents V (HR.out.gr (GW.out.trans (GX.out.trans hV))) (hg1.gr (GW.out.trans (GX.out.trans hV))) hg3 (SlAt.gr hcs hV) hgl hg2
            rw [HPR.out] at h
            exact h.mono fun _ _ ⟨h1, h2⟩ => ⟨h1, h2⟩
          rw [byR_grp] at HBY
          have HGONE : Hid ((byR x gs ents l).isSome = goneB ents l (x, gs)) := byR_isSome x gs ents l
          have hu23 := Tryz.underlying23
          have hi23 : (Tryz.prog.info? 23).map (·.size) = some (bC x.id).length := by rw [bC_length]; kernel_rfl
          have HKS : Hid (∀ V, Gr W V → V.rangeAt wr.heap.size 0 (bC x.id) ∧ hasRow V ⟨wr.heap.size, 0, none⟩ 83 = true ∧ rowAt V ⟨wr.heap.size, 0, none⟩ 83 = rwC x) := fun V hV => ⟨range_of_row ((hV.hasRow hzW).trans r3) ((hV.rowAt hzW).trans r4), (hV.hasRow hzW).trans r1, (hV.rowAt hzW).trans r2⟩
          have HR34 : Hid (∀ V, Gr W V → hasRow V ⟨wr.heap.size, 0, none⟩ 32 = true ∧ rowAt V ⟨wr.heap.size, 0, none⟩ 32 = bC x.id) := fun V hV => ⟨(hV.hasRow hzW).trans r3, (hV.rowAt hzW).trans r4⟩
          have BX := Lib.hid bx
          have HWW := Lib.hid hWW
          have hg0 := (Gr.refl W).drew
          have hg0' := fun o => ((Gr.refl W).alloc o).drew
          clear hlook hos hcs hgl u1 u2 bx hgx hWW r1 r2 r3 r4
          generalize byR x gs ents l = bo at *
          have hone : ∀ v ∈ bC (byId bo), v.oneCell' = true := fun v hv => List.all_eq_true.1 (oneB_bC (byId bo)) v hv
          have hlb : (bC x.id).length = (bC (byId bo)).length := by rw [bC_length, bC_length]
          go_region_held3 (fun u => u.rangeAt wr.heap.size 0 (bC x.id) ∧ hasRow u ⟨wr.heap.size, 0, none⟩ 83 = true ∧ rowAt u ⟨wr.heap.size, 0, none⟩ 83 = rwC x) (first | exact HKS.out _ hg0 | exact HKS.out _ (hg0' _) | exact HKS.out _ hgW4 | exact HKS.out _ (hgW4.alloc _) | exact HKS.out _ (Gr.setCells _ hgW4.size _ _ _ (hgW4.alloc _)) | exact HKS.out _ (Gr.setCells _ (Nat.le_refl _) _ _ _ hgW4)) (first | (go_at_call 17; refine (HBY.out _ (by first | exact hg0 | exact hg0' _)).mono ?_; rintro e w4 ⟨rfl, hg4⟩; have hgW4 : Gr W w4 := (by first | exact hg0.trans hg4 | exact (hg0' _).trans hg4); have htB : (w4.alloc (Obj.cells #[Value.int IntKind.u8 0, Value.int IntKind.u8 0, Value.int IntKind.u8 0, Value.int IntKind.u8 0, Value.int IntKind.u8 0, Value.int IntKind.u8 0, Value.int IntKind.u8 0, Value.int IntKind.u8 0, Value.int IntKind.u8 0, Value.int IntKind.u8 0, Value.int IntKind.u8 0, Value.int IntKind.u8 0, Value.int IntKind.u8 0, Value.int IntKind.u8 0, Value.int IntKind.u8 0, Value.int IntKind.u8 0, Value.int IntKind.u8 0, Value.int IntKind.u8 0, Value.int IntKind.u8 0, Value.int IntKind.u8 0, Value.int IntKind.u8 0, Value.int IntKind.u8 0, Value.int IntKind.u8 0, Value.int IntKind.u8 0, Value.int IntKind.u8 0, Value.int IntKind.u8 0, Value.int IntKind.u8 0, Value.int IntKind.u8 0, Value.int IntKind.u8 0, Value.int IntKind.u8 0, Value.int IntKind.u8 0, Value.int IntKind.u8 0] 23)).there w4.heap.size 0 (bC (byId bo)).length := there_block (heap_alloc_new w4 _) (by rw [bC_length]; decide); try (have htA : w4.there W.heap.size 0 (bC (byId bo)).length := there_block ((hg4.block (b := W.heap.size) (by simp)).trans (heap_alloc_new W _)) (by rw [bC_length]; decide))))
          all_goals first
            | (have _h := htA; have GE := Lib.hid (Gr.setCells (a := W) W.heap.size (Nat.le_refl _) (bC (byId bo)) 0 _ hgW4); generalize World.setCells w4 W.heap.size 0 (bC (byId bo)) = WE at *)
            | (have GE := Lib.hid (Gr.setCells (a := W) w4.heap.size hgW4.size (bC (byId bo)) 0 _ (hgW4.alloc (Obj.cells #[Value.int IntKind.u8 0, Value.int IntKind.u8 0, Value.int IntKind.u8 0, Value.int IntKind.u8 0, Value.int IntKind.u8 0, Value.int IntKind.u8 0, Value.int IntKind.u8 0, Value.int IntKind.u8 0, Value.int IntKind.u8 0, Value.int IntKind.u8 0, Value.int IntKind.u8 0, Value.int IntKind.u8 0, Value.int IntKind.u8 0, Value.int IntKind.u8 0, Value.int IntKind.u8 0, Value.int IntKind.u8 0, Value.int IntKind.u8 0, Value.int IntKind.u8 0, Value.int IntKind.u8 0, Value.int IntKind.u8 0, Value.int IntKind.u8 0, Value.int IntKind.u8 0, Value.int IntKind.u8 0, Value.int IntKind.u8 0, Value.int IntKind.u8 0, Value.int IntKind.u8 0, Value.int IntKind.u8 0, Value.int IntKind.u8 0, Value.int IntKind.u8 0, Value.int IntKind.u8 0, Value.int IntKind.u8 0, Value.int IntKind.u8 0] 23))); generalize World.setCells (w4.alloc (Obj.cells #[Value.int IntKind.u8 0, Value.int IntKind.u8 0, Value.int IntKind.u8 0, Value.int IntKind.u8 0, Value.int IntKind.u8 0, Value.int IntKind.u8 0, Value.int IntKind.u8 0, Value.int IntKind.u8 0, Value.int IntKind.u8 0, Value.int IntKind.u8 0, Value.int IntKind.u8 0, Value.int IntKind.u8 0, Value.int IntKind.u8 0, Value.int IntKind.u8 0, Value.int IntKind.u8 0, Value.int IntKind.u8 0, Value.int IntKind.u8 0, Value.int IntKind.u8 0, Value.int IntKind.u8 0, Value.int IntKind.u8 0, Value.int IntKind.u8 0, Value.int IntKind.u8 0, Value.int IntKind.u8 0, Value.int IntKind.u8 0, Value.int IntKind.u8 0, Value.int IntKind.u8 0, Value.int IntKind.u8 0, Value.int IntKind.u8 0, Value.int IntKind.u8 0, Value.int IntKind.u8 0, Value.int IntKind.u8 0, Value.int IntKind.u8 0] 23)) w4.heap.size 0 (bC (byId bo)) = WE at *)
          all_goals
            obtain ⟨f1, f2⟩ := HR34.out WE GE.out
            have f3 : wr.heap.size < WE.heap.size := Nat.lt_of_lt_of_le hzW GE.out.size
            have OE := Lib.hid (HOW.out.kept GE.out.grownBy (by cases u11.ownBlock <;> simp))
            have GT := Lib.hid ((hG2.out.trans GX.out).trans GE.out)
            clear hl1 hl2 hu23 hi23 hg0 hg0' hone hlb
            cases hbo : bo.isSome with
            | false =>
              have HB : Hid (goneIds ents l (rows.take (m + 1)) = goneIds ents l (rows.take m)) := by show _ = _; rw [HIS.out, ← HGONE.out, hbo]; rfl
              clear hbo
              go_wp2_with fail
              go_roundw
              case rel => exact ⟨m + 1, by omega, by go_num, GT.out, by show World.ownsRow _ _ _ _ _ _ _; rw [HB.out]; exact OE.out⟩
              case measure => simp [intOf]; omega
            | true =>
              have HB : Hid (goneIds ents l (rows.take (m + 1)) = goneIds ents l (rows.take m) ++ [x.id]) := by show _ = _; rw [HIS.out, ← HGONE.out, hbo]; rfl
              clear hbo
              have hnews : Hid (∀ j u, (idC x.id)[j]? = some u → (WE.alloc (.cells (bC x.id).toArray 23)).cell? ((⟨WE.heap.size, 0, none⟩ : Addr).add j) = some u) := by
                intro j u hu
                rw [Addr.add_lit, Nat.zero_add, World.cell?_alloc_new]; simpa [idC] using hu
              have hnl : Hid ((idC x.id).length = 1 * 32) := by show _ = _; rw [idC_len]
              have h1c : Hid (∀ u ∈ idC x.id, u.oneCell' = true) := fun u hu => List.all_eq_true.1 (oneB_bC x.id) u hu
              have O2 := Lib.hid (OE.out.alloc (.cells (bC x.id).toArray 23))
              have hszE : wA.heap.size ≤ WE.heap.size := GT.out.size
              go_wp2_with (at_builtin; refine wpList_append_own _ rfl _ _ 29 rfl wA.heap.size 23 j0 y0 32 32 Tryz.underlying29 HJ0.out hy0 hy1 hy2 HY.out (by decide) u11 (goneIds ents l (rows.take m)).length ((goneIds ents l (rows.take m)).map idC).flatten rfl O2.out ⟨WE.heap.size, 0, none⟩ 1 1 (idC x.id) rfl hnl.out hnews.out h1c.out (by unfold maxLen; omega) (by omega) (by simp; omega) ?_; intro v' w5 hown5 hgrow5 hnil5)
              go_roundw
              case rel =>
                refine ⟨m + 1, by omega, by go_num, (GT.out.alloc _).grown hgrow5 (fun k' hk' => (O2.out.lt k' hk').1), ?_⟩
                show World.ownsRow _ _ _ _ _ _ _
                rw [HB.out, List.length_append, List.map_append, List.flatten_append]
                simpa using hown5
              case measure => simp [intOf]; omega
        · have hme : rows.take m = rows := List.take_of_length_le (by omega)
          rw [hme] at hown hilen
          have hm1 : ¬ (m : Int) < (rows.length : Int) := by omega
          have GT := Lib.hid (hG.out.trans hG2.out)
          have hwA := hG.out.size
          clear hme
          rcases hown.out.2 with ⟨hv0, hv1⟩ | ⟨g', cap', cur, hv0, hb0, _, hcc, _⟩
          · subst hv0
            have HNIL : Hid (goneIds ents l rows = []) := List.length_eq_zero_iff.1 hv1
            clear hv1 hown
            go_wp2_with fail
            refine (sortIdsNil _ _).mono ?_
            rintro e w' ⟨rfl, rfl⟩
            go_wp2_with fail
            refine (compactNil _).mono ?_
            rintro e w' ⟨rfl, rfl⟩
            go_wp2_with fail
            go_ret2
            exact ⟨none, 0, 0, [], rfl, slAt_none _ _ _ _, inc_nil, fun i => by rw [HNIL.out], by simp, GT.out⟩
          · subst hv0
            have HSo := Lib.hid (sortIds (goneIds ents l rows) w wr wA.heap.size g' cap' hwA GT.out (by omega) hown.out)
            clear hown
            generalize hacc : goneIds ents l rows = acc at *
            have HA := Lib.hid hacc
            clear hacc
            go_wp2_with fail
            refine HSo.out.mono ?_
            rintro e w5 ⟨rfl, hg5, s, hp, hs, hown5⟩
            have hsl := hp.length_eq
            rw [← hsl] at hown5
            have HCo := Lib.hid (compactC s.toArray w w5 g' 0 cap' (by omega) hg5 (hown5.lt g' rfl).2 (rows32_of_owns hown5) (by simp; omega) (by simp; omega))
            rw [List.size_toArray, hsl] at HCo
            have HP := Lib.hid hp; have HS := Lib.hid hs; have HSL := Lib.hid hsl
            clear hp hs hown5 hg5 HSo hsl
            go_wp2_with fail
            refine HCo.out.mono ?_
            rintro e w6 ⟨n, rfl, hids, hg6⟩
            have HI := Lib.hid hids; have G6 := Lib.hid hg6
            clear hids hg6 HCo
            go_wp2_with fail
            go_ret2
            refine ⟨_, _, _, _, rfl, HI.out, comp_inc s HS.out, fun i => by rw [comp_mem, HP.out.mem_iff, HA.out], ?_, G6.out⟩
            have h1 : (Lib.compactUpTo s.toArray s.toArray.size).length ≤ s.toArray.size := by
              unfold Lib.compactUpTo
              rw [List.length_map]
              have := List.length_filter_le (Lib.keeps s.toArray) (List.range s.toArray.size)
              simpa using this
            simp at h1
            have := HSL.out
            simp
            omega
end Go.Proofs.YtemhfcfebkjioaaGreatDoor

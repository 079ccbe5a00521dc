/- The law CancelBy returns true. -/
import Derived.Test.YtemhfcfebkjioaaGreatDoorByL
import Derived.Test.YtemhfcfebkjioaaGreatDoorWCounts
import Derived.Test.YtemhfcfebkjioaaGreatDoorApp
namespace Go.Proofs.YtemhfcfebkjioaaGreatDoor
open Go.RowKit

theorem turnI (n k t : Nat) (h : k < n) : ((n : Int) - 1 - (k : Int) + (t : Int)) % (n : Int) = (turnAt n k t : Nat) := by
  have e : ((n : Int) - 1 - (k : Int) + (t : Int)) = ((n - 1 - k + t : Nat) : Int) := by omega
  rw [e]; unfold turnAt; rw [Int.natCast_emod]
set_option maxRecDepth 100000 in
set_option maxHeartbeats 2000000 in
theorem wBy (hK : KnownOk) (x : Rw) (gs : List ByteArray) (l : List Canc) (v : Value) (ds : List (Dfn × List Aut)) (vd : Value) (t : Nat) (w : World) (hE : Env w) (hgs : StrsAt w x.groups gs) (hv : CancsAt w v l) (hll : l.length ≤ 9223372036854775807) (hvd : DefsAt w vd ds) (hds : ds.length ≤ 9223372036854775807) (hone : oneB (rwC x) = true) (ht : t ≤ 255) :
    Calls Tryz.prog 4 #[.agg (rwC x).toArray, v, vd, .int .u8 (t : Int)] w fun e w' => e = .returned (.bool true) ∧ Gr w w' := by
  have hGW := (Gr.refl w).alloc (.cells (rwC x).toArray 31)
  have HK := Lib.hid (hK _ (hE.gr hGW))
  obtain ⟨ga, gc, hgv, hgj⟩ := id hgs
  have HGS := Lib.hid hgs; have HV := Lib.hid hv; have HD := Lib.hid hvd; have HE := Lib.hid hE; have HG := Lib.hid hGW
  have HBX := Lib.hid (heap_alloc_new w (.cells (rwC x).toArray 31))
  obtain ⟨va, vc, hvv, hvc, hj⟩ := id hv
  rw [List.length_map] at hvv hvc
  subst hvv
  have HJ := Lib.hid hj
  obtain ⟨⟨da, dc, hdd, _, _⟩, _⟩ := id hvd
  rw [List.length_map] at hdd
  subst hdd
  obtain ⟨z0, hinfo, hzs⟩ := infoCanc
  obtain ⟨i0, hi, hz0, hz1, hz2⟩ := info_parts hinfo
  have HZ := Lib.hid hzs
  clear hgs hv hE hGW hgj hvd hj hinfo hzs
  go_enter Tryz.func4, Tryz.ntmps4
  go_wp2_with fail
  refine HK.out.mono ?_
  rintro e w1 ⟨rfl, hg1⟩
  have bx1 := (hg1.block (Array.getElem?_eq_some_iff.1 HBX.out).1).trans HBX.out
  have r1 := hasRow_block bx1 0 83 (by rw [rwC_length]; decide)
  have r2 := (rowAt_block bx1 0 83 (by rw [rwC_length]; decide)).trans (rw_whole x)
  have BX1 := Lib.hid bx1; have G1 := Lib.hid (HG.out.trans hg1)
  clear bx1 hg1
  go_wp2_with fail
  have hrow : SlAt (w1.alloc (.cells (rwC x).toArray 31)) (.slice (some ⟨w1.heap.size, 0, none⟩) 1 1) 83 ([x].map rwC) := one_row (heap_alloc_new w1 _) (rwC_length x)
  refine (fewC [x] _ va l.length vc _ hrow (by intro z hz; simp at hz; subst hz; exact ⟨_, _, _, hgv⟩) (by simp) hll).mono ?_
  rintro e w2 ⟨rfl, rfl⟩
  have G2 := Lib.hid (G1.out.alloc (.cells (rwC x).toArray 31))
  have BX2 := Lib.hid ((((Gr.refl w1).alloc (.cells (rwC x).toArray 31)).block (Array.getElem?_eq_some_iff.1 BX1.out).1).trans BX1.out)
  clear hrow BX1 r1 r2
  cases hf : fewB [x] l.length with
  | false =>
    go_wp2_with fail
    refine (hK _ (HE.out.gr G2.out)).mono ?_
    rintro e w3 ⟨rfl, hg3⟩
    go_wp2_with fail
    go_ret
    exact ⟨rfl, G2.out.trans hg3⟩
  | true =>
    have hsm : gs.length ≤ 1000000 ∧ l.length ≤ 30 := by
      unfold fewB smallB grpLen at hf
      rw [List.all_cons, hgv] at hf
      simp at hf; omega
    obtain ⟨hl, hl30⟩ := hsm
    clear hf
    go_wp2_with fail
    refine (madeC ds _ _ (HE.out.gr G2.out) (HD.out.gr G2.out) hds).mono ?_
    rintro e w3 ⟨br, ents, rfl, hreg, _, hg3⟩
    have bx3 := (hg3.block (Array.getElem?_eq_some_iff.1 BX2.out).1).trans BX2.out
    have G3 := Lib.hid (G2.out.trans hg3); have HR := Lib.hid hreg; have BX3 := Lib.hid bx3
    have hw3 : w.heap.size < w3.heap.size := (Array.getElem?_eq_some_iff.1 bx3).1
    clear hg3 hreg BX2 bx3
    unfold ptrV
    go_wp2_with fail
    go_loopw [10, 11, 30, 31, 32, 33, 34, 35, 36, 37, 38, 39, 40, 41, 42, 43, 44, 45, 46, 47, 48, 49, 50, 51, 52] (fun ov i _ _ _ _ _ _ _ _ _ _ _ _ _ _ _ _ _ _ _ _ _ _ _ wr => ∃ k : Nat, k ≤ l.length ∧ i = .int .i64 k ∧ Hid (Gr w3 wr) ∧ Hid (wr.ownsRow w3.heap.size 27 81 ov (turned l t k).length ((turned l t k).map cancC).flatten)) (fun _ i _ _ _ _ _ _ _ _ _ _ _ _ _ _ _ _ _ _ _ _ _ _ _ _ => l.length - (intOf i).toNat)
    case atStart => exact ⟨0, Nat.zero_le _, rfl, Gr.refl _, ⟨rfl, .inl ⟨rfl, rfl⟩⟩⟩
    case round =>
      obtain ⟨k, hk, rfl, hG, hown⟩ := hrel
      by_cases hlt : k < l.length
      · have hti := turnI l.length k t hlt
        have htl := turnAt_lt (n := l.length) (t := t) hlt
        have HTS := Lib.hid (turned_succ l t k hlt)
        have hlen := turned_len l t k (by omega)
        have GW := Lib.hid (G3.out.trans hG.out)
        obtain ⟨b, o, rfl, hb, q1, q2⟩ := HJ.out (turnAt l.length k t) (by simpa using htl)
        have u1 := (GW.out.hasRow hb).trans q1
        have u2 := (GW.out.rowAt hb).trans q2
        rw [List.getElem_map] at u2
        have hbw : b < wr.heap.size := Nat.lt_of_lt_of_le hb GW.out.size
        have hk1 : (k : Int) < (l.length : Int) := by omega
        have hk2 : (0 : Int) ≤ (k : Int) := by omega
        have ha0 : (0 : Int) ≤ ((turnAt l.length k t : Nat) : Int) := by omega
        have ha1 : ((turnAt l.length k t : Nat) : Int) < (l.length : Int) := by omega
        have hacc : (turned l t k).length ≤ 30 := by omega
        clear q1 q2 hlen
        generalize l[turnAt l.length k t] = y at *
        generalize turnAt l.length k t = j at *
        generalize turned l t k = acc at *
        have hnews : Hid (∀ j u, (cancC y)[j]? = some u → (wr.alloc (.cells (cancC y).toArray 27)).cell? ((⟨wr.heap.size, 0, none⟩ : Addr).add j) = some u) := by
          intro j u hu
          rw [Addr.add_lit, Nat.zero_add, World.cell?_alloc_new]; simpa using hu
        have hnl : Hid ((cancC y).length = 1 * 81) := by show _ = _; rw [cancC_length]
        have h1c : Hid (∀ u ∈ cancC y, u.oneCell' = true) := fun u hu => List.all_eq_true.1 (canc_one y) u hu
        have O2 := Lib.hid (hown.out.alloc (.cells (cancC y).toArray 27))
        have hsz3 := hG.out.size
        go_wp2_with (at_builtin; refine wpList_append_own _ rfl _ _ 40 rfl w3.heap.size 27 i0 z0 81 88 Tryz.underlying40 hi hz0 hz1 hz2 HZ.out (by decide) u10 acc.length (acc.map cancC).flatten rfl O2.out ⟨wr.heap.size, 0, none⟩ 1 1 (cancC y) rfl hnl.out hnews.out h1c.out (by unfold maxLen; omega) (by omega) (by simp; omega) ?_; intro v' w5 hown5 hgrow5 hnil5)
        go_roundw
        case rel =>
          have hbl : ∀ k', u10.ownBlock = some k' → w3.heap.size ≤ k' := fun k' hk' => (O2.out.lt k' hk').1
          refine ⟨k + 1, by omega, by go_num, (hG.out.alloc _).grown hgrow5 hbl, ?_⟩
          show World.ownsRow _ _ _ _ _ _ _
          rw [HTS.out, List.length_append, List.map_append, List.flatten_append]
          simpa using hown5
        case measure => simp [intOf]; omega
      · have hke : k = l.length := by omega
        subst hke
        have GW := Lib.hid (G3.out.trans hG.out)
        have HSAME := Lib.hid (byR_same x gs ents (turned_same l t))
        obtain ⟨oa, oc, hov, _⟩ := owns_slice hown.out
        have OV : CancsAt wr u10 (turned l t l.length) := slAt_of_owns (map_cancC_len (turned l t l.length)) (by rw [List.length_map]; exact hown.out)
        have hol := turned_len l t l.length (Nat.le_refl _)
        rw [hol] at hov
        have bx := (hG.out.block hw3).trans BX3.out
        have r1 := hasRow_block bx 0 83 (by rw [rwC_length]; decide)
        have r2 := (rowAt_block bx 0 83 (by rw [rwC_length]; decide)).trans (rw_whole x)
        have hbz : w.heap.size < wr.heap.size := (Array.getElem?_eq_some_iff.1 bx).1
        have HB1 := Lib.hid (fun W (hg : Gr wr W) => byC x gs l _ (some br) ents W (HR.out.gr (hG.out.trans hg)) (HGS.out.gr (GW.out.trans hg)) hl (HV.out.gr (GW.out.trans hg)) (by omega) hone)
        have HB2 := Lib.hid (fun W (hg : Gr wr W) => (byC x gs (turned l t l.length) u10 (some br) ents W (HR.out.gr (hG.out.trans hg)) (HGS.out.gr (GW.out.trans hg)) hl (SlAt.gr OV hg) (by omega) hone).mono fun e w' ⟨he, hg'⟩ => (⟨he.trans (by rw [← HSAME.out.1, ← HSAME.out.2]), hg'⟩ : ByPost (byR x gs ents l) W e w'))
        have HB3 := Lib.hid (fun W (hg : Gr wr W) => byL x gs l _ (some br) ents W (HR.out.gr (hG.out.trans hg)) (HGS.out.gr (GW.out.trans hg)) hl (HV.out.gr (GW.out.trans hg)) (by omega) hone)
        unfold ptrV at HB1 HB2 HB3
        subst hov
        clear OV hol bx hown
        generalize byR x gs ents l = bo at *
        go_wp2_with fail
        refine (HB1.out wr (Gr.refl wr)).mono ?_
        rintro e w4 ⟨rfl, hg4⟩
        have s1 := (hg4.hasRow hbz).trans r1
        have s2 := (hg4.rowAt hbz).trans r2
        have hbz4 : w.heap.size < w4.heap.size := Nat.lt_of_lt_of_le hbz hg4.size
        have G4 := Lib.hid hg4
        clear r1 r2 hg4
        go_wp2_with fail
        have g4 := G4.out.alloc (.cells (bC (byId bo)).toArray 23)
        refine (HB2.out _ g4).mono ?_
        rintro e w5 ⟨rfl, hg5⟩
        have b1 := (hg5.block (b := w4.heap.size) (by simp)).trans (heap_alloc_new w4 (.cells (bC (byId bo)).toArray 23))
        have hbz5 : w.heap.size < w5.heap.size := Nat.lt_of_lt_of_le hbz4 (Nat.le_trans (by simp) hg5.size)
        have z1 : w4.heap.size < w5.heap.size := (Array.getElem?_eq_some_iff.1 b1).1
        have s3 := (((Gr.refl w4).alloc _).trans hg5).hasRow (k := 0) (n := 83) hbz4 |>.trans s1
        have s4 := (((Gr.refl w4).alloc _).trans hg5).rowAt (k := 0) (n := 83) hbz4 |>.trans s2
        have B1 := Lib.hid b1
        have G5 := Lib.hid (g4.trans hg5)
        clear s1 s2 b1 g4 hg5
        go_wp2_with fail
        have g5 := G5.out.alloc (.cells (bC (byId bo)).toArray 23)
        refine (HB3.out _ g5).mono ?_
        rintro e w6 ⟨rfl, hg6⟩
        have c1 := (hg6.block (b := w4.heap.size) (by simp; omega)).trans ((((Gr.refl w5).alloc _).block z1).trans B1.out)
        have c2 := (hg6.block (b := w5.heap.size) (by simp)).trans (heap_alloc_new w5 (.cells (bC (byId bo)).toArray 23))
        have y1 : w4.heap.size < w6.heap.size := (Array.getElem?_eq_some_iff.1 c1).1
        have y2 : w5.heap.size < w6.heap.size := (Array.getElem?_eq_some_iff.1 c2).1
        have d1 := hasRow_block c1 0 32 (by rw [bC_length]; decide)
        have d2 := (rowAt_block c1 0 32 (by rw [bC_length]; decide)).trans (rowOf_all _ _ (bC_length _))
        have d3 := hasRow_block c2 0 32 (by rw [bC_length]; decide)
        have d4 := (rowAt_block c2 0 32 (by rw [bC_length]; decide)).trans (rowOf_all _ _ (bC_length _))
        have G6 := Lib.hid (GW.out.trans (g5.trans hg6))
        clear s3 s4 c1 c2 g5 hg6
        go_wp2_with fail
        go_ret
        exact ⟨by simp, G6.out.alloc _⟩
end Go.Proofs.YtemhfcfebkjioaaGreatDoor

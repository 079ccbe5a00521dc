/- The law CancelTombs returns true. -/
import Derived.Test.YtemhfcfebkjioaaGreatDoorRIn
import Derived.Test.YtemhfcfebkjioaaGreatDoorTBuild
namespace Go.Proofs.YtemhfcfebkjioaaGreatDoor
open Go.RowKit

set_option maxRecDepth 100000 in
set_option maxHeartbeats 2000000 in
theorem wTomb (hK : KnownOk) (l : List Canc) (v : Value) (rows : List (Rw × List ByteArray)) (vr : Value) (ds : List (Dfn × List Aut)) (vd : Value) (w : World) (hE : Env w)
    (hv : CancsAt w v l) (hll : l.length ≤ 9223372036854775807) (hr : RowsIn w vr rows) (hrl : rows.length ≤ 9223372036854775807) (hd : DefsAt w vd ds) (hdl : ds.length ≤ 9223372036854775807) :
    Calls Tryz.prog 8 #[v, vr, vd] w fun e w' => e = .returned (.bool true) ∧ Gr w w' := by
  have HK := Lib.hid hK
  have HR := Lib.hid hr; have HV := Lib.hid hv; have HD := Lib.hid hd; have HE := Lib.hid hE
  obtain ⟨⟨ra, rc, hrv, hrc, hrj⟩, hrg⟩ := id hr
  obtain ⟨va, vc, hvv, hvc, _⟩ := id hv
  obtain ⟨⟨da, dc, hdv, hdc, _⟩, _⟩ := id hd
  rw [List.length_map] at hrv hvv hdv hrc
  subst hrv; subst hvv; subst hdv
  have HRJ := Lib.hid hrj
  obtain ⟨hfs1, hfs2⟩ := hr.slots
  have HFEW := Lib.hid (fun W (hg : Gr w W) => fewC (rows.map (·.1)) _ va l.length vc W (hfs1.gr hg) hfs2 (by simpa using hrl) hll)
  clear hr hv hd hE hfs1 hfs2 hrj hrg
  go_enter Tryz.func8, Tryz.ntmps8
  go_wp2_with fail
  refine (HK.out w HE.out).mono ?_
  rintro e w1 ⟨rfl, hg1⟩
  have G1 := Lib.hid hg1
  clear hg1
  go_wp2_with fail
  refine (HFEW.out w1 G1.out).mono ?_
  rintro e w2 ⟨rfl, rfl⟩
  cases hfew : fewB (rows.map (·.1)) l.length with
  | false =>
    go_wp2_with fail
    refine (HK.out _ (HE.out.gr G1.out)).mono ?_
    rintro e w3 ⟨rfl, hg3⟩
    go_wp2_with fail
    go_ret
    exact ⟨rfl, G1.out.trans hg3⟩
  | true =>
    obtain ⟨hRA, hr30, hl30⟩ := rowsIn_few HR.out hfew
    have HRA := Lib.hid hRA
    clear hRA hfew
    go_wp2_with fail
    refine (madeC ds _ w1 (HE.out.gr G1.out) (HD.out.gr G1.out) hdl).mono ?_
    rintro e w3 ⟨br, ents, rfl, hreg, _, hg3⟩
    have G3 := Lib.hid (G1.out.trans hg3); have HREG := Lib.hid hreg
    unfold ptrV
    clear hg3 hreg
    go_wp2_with fail
    refine (buildT l _ w3 (HV.out.gr G3.out) (by omega)).mono ?_
    rintro e w4 ⟨bt, bm, ba, bc, rfl, hT, hca, hg4⟩
    have hal : (accL l).length ≤ 30 := by have := accL_len l l.length; rw [List.take_length] at this; omega
    have HHO := Lib.hid (holdsC _ bt bm (accL l) _ w4 hT (by omega) hca)
    have HT := Lib.hid hT; have HCA := Lib.hid hca; have G4 := Lib.hid (G3.out.trans hg4); have HREG4 := Lib.hid (HREG.out.gr hg4)
    clear hT hca hg4
    generalize accL l = acc at *
    go_wp2_with fail
    refine HHO.out.mono ?_
    rintro e w5 ⟨rfl, hg5⟩
    have G5 := Lib.hid hg5
    clear hg5 HHO
    go_wp2_with fail
    go_loopw [11, 12, 13, 14, 15, 41, 42, 43, 44, 45, 46, 47, 48, 49, 50, 51, 52, 53, 54, 55, 56, 57, 58, 59, 60, 61, 62, 63, 64, 65, 66, 67, 68, 69, 70, 71, 72, 73, 74] (fun i _ _ _ _ _ _ _ _ _ _ _ _ _ _ _ _ _ _ _ _ _ _ _ _ _ _ _ _ _ _ _ _ _ _ _ _ _ _ wr => ∃ (m : Nat), m ≤ rows.length ∧ i = .int .i64 m ∧ Hid (Gr w5 wr)) (fun i _ _ _ _ _ _ _ _ _ _ _ _ _ _ _ _ _ _ _ _ _ _ _ _ _ _ _ _ _ _ _ _ _ _ _ _ _ _ _ => rows.length - (intOf i).toNat)
    case atStart => exact ⟨0, Nat.zero_le _, rfl, Gr.refl _⟩
    case round =>
      obtain ⟨m, hm, rfl, hG⟩ := hrel
      have GW4 := Lib.hid (G5.out.trans hG.out)
      have GW := Lib.hid (G4.out.trans GW4.out)
      by_cases hltm : m < rows.length
      · obtain ⟨b, o, rfl, hb, q1, q2⟩ := HRJ.out m (by simpa using hltm)
        have u1 := (GW.out.hasRow hb).trans q1
        have u2 := (GW.out.rowAt hb).trans q2
        rw [List.getElem_map] at u2
        obtain ⟨hg1, hg2, hg3⟩ := HRA.out.2 rows[m] (List.getElem_mem hltm)
        have hm1 : (m : Int) < (rows.length : Int) := by omega
        have hm2 : (0 : Int) ≤ (m : Int) := by omega
        have hbw : b < wr.heap.size := Nat.lt_of_lt_of_le hb GW.out.size
        clear q1 q2
        generalize rows[m] = rx at *
        obtain ⟨x, gs⟩ := rx
        dsimp only at u1 u2 hg1 hg2 hg3
        have HWD := Lib.hid (withdrawsC _ bt bm acc x gs (some br) ents wr (HT.out.gr GW4.out) (by omega) (HREG4.out.gr GW4.out) (hg1.gr GW.out) hg3 hg2)
        have HBY := Lib.hid (fun W (hg : Gr wr W) => byL x gs acc _ (some br) ents W (HREG4.out.gr (GW4.out.trans hg)) (hg1.gr (GW.out.trans hg)) hg3 (HCA.out.gr (GW4.out.trans hg)) (by omega) hg2)
        unfold ptrV at HWD HBY
        generalize byR x gs ents acc = bo at *
        go_wp2_with fail
        refine HWD.out.mono ?_
        rintro e w6 ⟨rfl, hg6⟩
        have g6 := hg6.alloc (.cells (bC (byId bo)).toArray 23)
        have v1 := (g6.hasRow hbw).trans u1
        have v2 := (g6.rowAt hbw).trans u2
        have G6 := Lib.hid g6
        have HBY2 := Lib.hid (HBY.out _ g6)
        have A1 := Lib.hid (heap_alloc_new w6 (.cells (bC (byId bo)).toArray 23))
        clear u1 u2 hg6 g6 HWD HBY
        go_wp2_with fail
        refine HBY2.out.mono ?_
        rintro e w7 ⟨rfl, hg7⟩
        have a1 := (hg7.block (b := w6.heap.size) (by simp)).trans A1.out
        have a2 := ((Gr.refl w7).alloc (.cells (bC (byId bo)).toArray 23)).block (Array.getElem?_eq_some_iff.1 a1).1
        have a3 := a2.trans a1
        have r1 := hasRow_block a3 0 32 (by rw [bC_length]; decide)
        have r2 := rowAt_block a3 0 32 (by rw [bC_length]; decide)
        rw [show rowOf (bC (byId bo)) 0 32 = bC (byId bo) from by unfold rowOf; rw [List.drop_zero, List.take_of_length_le (by rw [bC_length]; decide)]] at r2
        have G7 := Lib.hid (hg7.alloc (.cells (bC (byId bo)).toArray 23))
        clear a1 a2 a3 hg7 HBY2 v1 v2
        go_wp2_with fail
        go_roundw
        case rel => exact ⟨m + 1, by omega, by go_num, hG.out.trans (G6.out.trans G7.out)⟩
        case measure => simp [intOf]; omega
      · have hm1 : ¬ (m : Int) < (rows.length : Int) := by omega
        go_wp2_with fail
        go_ret
        exact ⟨rfl, GW.out⟩
end Go.Proofs.YtemhfcfebkjioaaGreatDoor

/- The law CancelWithdrawn returns true. -/
import Derived.Test.YtemhfcfebkjioaaGreatDoorWMono
import Derived.Test.YtemhfcfebkjioaaGreatDoorIns
import Derived.Test.YtemhfcfebkjioaaGreatDoorByL
namespace Go.Proofs.YtemhfcfebkjioaaGreatDoor
open Go.RowKit

set_option maxRecDepth 100000 in
set_option maxHeartbeats 2000000 in
theorem wWdr (hK : KnownOk) (rows : List (Rw × List ByteArray)) (vr : Value) (l : List Canc) (v : Value) (ds : List (Dfn × List Aut)) (vd : Value) (w : World) (hE : Env w)
    (hr : RowsIn w vr rows) (hrl : rows.length ≤ 9223372036854775807) (hv : CancsAt w v l) (hll : l.length ≤ 9223372036854775807) (hd : DefsAt w vd ds) (hdl : ds.length ≤ 9223372036854775807) :
    Calls Tryz.prog 5 #[vr, v, vd] w fun e w' => e = .returned (.bool true) ∧ Gr w w' := by
  have HK := Lib.hid hK
  have HR := Lib.hid hr; have HV := Lib.hid hv; have HD := Lib.hid hd; have HE := Lib.hid hE
  obtain ⟨⟨ra, rc, hrv, hrc, hrj⟩, hrg⟩ := id hr
  obtain ⟨va, vc, hvv, hvc, _⟩ := id hv
  obtain ⟨⟨da, dc, hdv, hdc, _⟩, _⟩ := id hd
  rw [List.length_map] at hrv hvv hdv hrc
  subst hrv; subst hvv; subst hdv
  have HRJ := Lib.hid hrj
  obtain ⟨hfs1, hfs2⟩ := hr.slots
  have HFEW := Lib.hid (fun W (hg : Gr w W) => fewC (rows.map (·.1)) _ va l.length vc W (hfs1.gr hg) hfs2 (by simpa using hrl) hll)
  clear hr hv hd hE hfs1 hfs2 hrj hrg
  go_enter Tryz.func5, Tryz.ntmps5
  go_wp2_with fail
  refine (HK.out w HE.out).mono ?_
  rintro e w1 ⟨rfl, hg1⟩
  have G1 := Lib.hid hg1
  clear hg1
  go_wp2_with fail
  refine (HFEW.out w1 G1.out).mono ?_
  rintro e w2 ⟨rfl, rfl⟩
  cases hfew : fewB (rows.map (·.1)) l.length with
  | false =>
    go_wp2_with fail
    refine (HK.out _ (HE.out.gr G1.out)).mono ?_
    rintro e w3 ⟨rfl, hg3⟩
    go_wp2_with fail
    go_ret
    exact ⟨rfl, G1.out.trans hg3⟩
  | true =>
    obtain ⟨hRA, hr30, hl30⟩ := rowsIn_few HR.out hfew
    have HRA := Lib.hid hRA
    clear hRA hfew
    go_wp2_with fail
    refine (madeC ds _ w1 (HE.out.gr G1.out) (HD.out.gr G1.out) hdl).mono ?_
    rintro e w3 ⟨br, ents, rfl, hreg, _, hg3⟩
    have G3 := Lib.hid (G1.out.trans hg3); have HREG := Lib.hid hreg
    unfold ptrV
    clear hg3 hreg
    go_wp2_with fail
    go_loopw [8, 9, 10, 11, 25, 26, 27, 28, 29, 30, 31, 32, 33, 34, 35, 36, 37, 38, 39, 40, 41, 42, 43, 44, 45, 46, 47, 48] (fun wv i _ _ _ _ _ _ _ _ _ _ _ _ _ _ _ _ _ _ _ _ _ _ _ _ _ _ wr => ∃ (m : Nat) (s : List Id), m ≤ rows.length ∧ i = .int .i64 m ∧ Hid (Gr w3 wr) ∧ Hid (IdsAt wr wv s) ∧ Hid (Inc s) ∧ Hid (∀ i, i ∈ s ↔ i ∈ goneIds ents l (rows.take m)) ∧ s.length ≤ m ∧ Hid (∃ a n c, wv = .slice a n c)) (fun _ i _ _ _ _ _ _ _ _ _ _ _ _ _ _ _ _ _ _ _ _ _ _ _ _ _ _ _ => rows.length - (intOf i).toNat)
    case atStart => exact ⟨0, [], Nat.zero_le _, rfl, Gr.refl _, slAt_none _ _ _ _, inc_nil, fun i => by simp [goneIds], Nat.zero_le _, none, 0, 0, rfl⟩
    case round =>
      obtain ⟨m, s, hm, rfl, hG, hids, hinc, hmem, hsl, hshape⟩ := hrel
      obtain ⟨wa, wn, wc, rfl⟩ := hshape.out
      have GW := Lib.hid (G3.out.trans hG.out)
      by_cases hltm : m < rows.length
      · obtain ⟨b, o, rfl, hb, q1, q2⟩ := HRJ.out m (by simpa using hltm)
        have u1 := (GW.out.hasRow hb).trans q1
        have u2 := (GW.out.rowAt hb).trans q2
        rw [List.getElem_map] at u2
        obtain ⟨hg1, hg2, hg3⟩ := HRA.out.2 rows[m] (List.getElem_mem hltm)
        have HIS := Lib.hid (goneIds_succ ents l rows m hltm)
        have hm1 : (m : Int) < (rows.length : Int) := by omega
        have hm2 : (0 : Int) ≤ (m : Int) := by omega
        have hbw : b < wr.heap.size := Nat.lt_of_lt_of_le hb GW.out.size
        clear q1 q2
        generalize rows[m] = rx at *
        obtain ⟨x, gs⟩ := rx
        dsimp only at u1 u2 hg1 hg2 hg3
        have HBY := Lib.hid (byL x gs l _ (some br) ents wr (HREG.out.gr hG.out) (hg1.gr GW.out) hg3 (HV.out.gr GW.out) (by omega) hg2)
        have HGONE : Hid ((byR x gs ents l).isSome = goneB ents l (x, gs)) := byR_isSome x gs ents l
        unfold ptrV at HBY
        generalize byR x gs ents l = bo at *
        go_wp2_with fail
        refine HBY.out.mono ?_
        rintro e w4 ⟨rfl, hg4⟩
        have v1 := (hg4.hasRow hbw).trans u1
        have v2 := (hg4.rowAt hbw).trans u2
        have i1 := sub_rowH v1 0 32 (by decide)
        have i2 := (sub_row v1 v2 0 32 (by decide)).trans (rw_id x)
        simp only [Nat.add_zero] at i1 i2
        have hbw4 : b < w4.heap.size := Nat.lt_of_lt_of_le hbw hg4.size
        have G4 := Lib.hid hg4
        clear u1 u2 v1 v2 hg4 HBY
        cases hbo : bo.isSome with
        | false =>
          have HB : Hid (goneIds ents l (rows.take (m + 1)) = goneIds ents l (rows.take m)) := by show _ = _; rw [HIS.out, ← HGONE.out, hbo]; rfl
          clear hbo
          go_wp2_with fail
          go_roundw
          case rel => exact ⟨m + 1, s, by omega, by go_num, (hG.out.trans G4.out).alloc _, hids.out.gr (G4.out.alloc _), hinc.out, by show ∀ i, _; rw [HB.out]; exact hmem.out, by omega, _, _, _, rfl⟩
          case measure => simp [intOf]; omega
        | true =>
          have HB : Hid (goneIds ents l (rows.take (m + 1)) = goneIds ents l (rows.take m) ++ [x.id]) := by show _ = _; rw [HIS.out, ← HGONE.out, hbo]; rfl
          clear hbo
          have HIN := Lib.hid (insertC s (.slice wa wn wc) x.id _ (hids.out.gr (G4.out.alloc (.cells (bC (byId bo)).toArray 23))) (by omega))
          go_wp2_with fail
          refine HIN.out.mono ?_
          rintro e w5 ⟨pk, ia, ic, icc, hpl, rfl, hids5, hg5⟩
          have G5 := Lib.hid ((G4.out.alloc (.cells (bC (byId bo)).toArray 23)).trans hg5); have HI5 := Lib.hid hids5; have HPL := Lib.hid hpl
          clear hpl hids5 hg5 HIN
          go_wp2_with fail
          go_roundw
          case rel =>
            refine ⟨m + 1, insAt s x.id pk, by omega, by go_num, hG.out.trans G5.out, HI5.out, insAt_inc hinc.out HPL.out, ?_, ?_, _, _, _, rfl⟩
            · show ∀ i, _
              intro i
              rw [HB.out, insAt_mem, List.mem_append, hmem.out i]; simp
            · unfold insAt; split
              · omega
              · simp; omega
          case measure => simp [intOf]; omega
      · have hme : rows.take m = rows := List.take_of_length_le (by omega)
        rw [hme] at hmem
        have hm1 : ¬ (m : Int) < (rows.length : Int) := by omega
        have HW := Lib.hid (withdrawnC rows _ l _ (some br) ents wr (HREG.out.gr hG.out) (HRA.out.gr GW.out) (by omega) (HV.out.gr GW.out) (by omega))
        unfold ptrV at HW
        clear hme
        go_wp2_with fail
        refine HW.out.mono ?_
        rintro e w4 ⟨sa, sn, sc, s2, rfl, hids2, hinc2, hmem2, hsl2, hg4⟩
        have heq : s2 = s := inc_ext hinc2 hinc.out fun i => by rw [hmem2, hmem.out]
        have HEQ := Lib.hid (equalC s2 s _ _ w4 hids2 (hids.out.gr hg4) hsl2 (by omega))
        have hdec : decide (s2 = s) = true := by simp [heq]
        rw [hdec] at HEQ
        have G4 := Lib.hid (GW.out.trans hg4)
        clear hids2 hinc2 hmem2 hg4 heq hdec
        go_wp2_with fail
        refine HEQ.out.mono ?_
        rintro e w5 ⟨rfl, hg5⟩
        go_wp2_with fail
        go_ret
        exact ⟨rfl, G4.out.trans hg5⟩
end Go.Proofs.YtemhfcfebkjioaaGreatDoor

/- The law CancelClone returns true. -/
import Derived.Test.YtemhfcfebkjioaaGreatDoorRIn
import Derived.Test.YtemhfcfebkjioaaGreatDoorTClone
namespace Go.Proofs.YtemhfcfebkjioaaGreatDoor
open Go.RowKit

/-- What the tombs hold when the first k of more have come. -/
def addA (acc more : List Canc) (k : Nat) : List Canc := (more.take k).foldl addL acc
theorem addA_zero (acc more : List Canc) : addA acc more 0 = acc := rfl
theorem addA_succ (acc more : List Canc) (k : Nat) (h : k < more.length) : addA acc more (k + 1) = addL (addA acc more k) more[k] := by
  unfold addA; rw [List.take_succ_eq_append_getElem h, List.foldl_append]; rfl
theorem addL_app (l : List Canc) (y : Canc) : ∃ M, addL l y = l ++ M := by
  unfold addL; split
  · exact ⟨[y], rfl⟩
  · exact ⟨[], by simp⟩
theorem foldL_app : ∀ (m a : List Canc), ∃ M, m.foldl addL a = a ++ M
  | [], a => ⟨[], by simp⟩
  | y :: m, a => by
    obtain ⟨M1, h1⟩ := addL_app a y
    obtain ⟨M2, h2⟩ := foldL_app m (addL a y)
    exact ⟨M1 ++ M2, by rw [List.foldl_cons, h2, h1, List.append_assoc]⟩
theorem addA_len (acc more : List Canc) : ∀ k, (addA acc more k).length ≤ acc.length + k
  | 0 => Nat.le_refl _
  | k + 1 => by
    by_cases h : k < more.length
    · rw [addA_succ acc more k h]; have := addL_len (addA acc more k) more[k]; have := addA_len acc more k; omega
    · have e : addA acc more (k + 1) = addA acc more k := by unfold addA; rw [List.take_of_length_le (by omega), List.take_of_length_le (by omega)]
      rw [e]; have := addA_len acc more k; omega
theorem addA_all (l more : List Canc) (k : Nat) (h : more.length ≤ k) : addA (accL l) more k = accL (l ++ more) := by
  unfold addA; rw [List.take_of_length_le h, accL_app]
theorem addA_same (acc more : List Canc) (k : Nat) (h : (addA acc more k).length = acc.length) : addA acc more k = acc := by
  obtain ⟨M, hM⟩ := foldL_app (more.take k) acc
  have : addA acc more k = acc ++ M := hM
  rw [this] at h ⊢
  rw [List.length_append] at h
  rw [List.length_eq_zero_iff.1 (by omega : M.length = 0), List.append_nil]
set_option maxRecDepth 100000 in
set_option maxHeartbeats 4000000 in
theorem wClone (hK : KnownOk) (l : List Canc) (v : Value) (more : List Canc) (vm : Value) (w : World) (hE : Env w)
    (hv : CancsAt w v l) (hll : l.length ≤ 9223372036854775807) (hm : CancsAt w vm more) (hml : more.length ≤ 9223372036854775807) :
    Calls Tryz.prog 10 #[v, vm] w fun e w' => e = .returned (.bool true) ∧ Gr w w' := by
  have HK := Lib.hid hK
  have HV := Lib.hid hv; have HM := Lib.hid hm; have HE := Lib.hid hE
  obtain ⟨va, vc, hvv, hvc, _⟩ := id hv
  obtain ⟨ma, mc, hmv, hmc, hmj⟩ := id hm
  rw [List.length_map] at hvv hmv hvc hmc
  subst hvv; subst hmv
  have HMJ := Lib.hid hmj
  obtain ⟨z0, hinfo, hzs⟩ := infoCanc
  obtain ⟨i0, hi, hz0, hz1, hz2⟩ := info_parts hinfo
  have HZ := Lib.hid hzs; have HI0 := Lib.hid hi
  clear hv hm hE hmj hzs hi hinfo
  go_enter Tryz.func10, Tryz.ntmps10
  go_wp2_with fail
  refine (HK.out w HE.out).mono ?_
  rintro e w1 ⟨rfl, hg1⟩
  have G1 := Lib.hid hg1
  clear hg1
  by_cases hl30 : l.length ≤ 30
  · have a1 : decide ((30 : Int) < (l.length : Int)) = false := by simp; omega
    by_cases hm30 : more.length ≤ 30
    · have a2 : decide ((30 : Int) < (more.length : Int)) = false := by simp; omega
      go_wp2_with fail
      refine (buildT l _ w1 (HV.out.gr G1.out) (by omega)).mono ?_
      rintro e w2 ⟨bt, bm, ba, bc, rfl, hT, hca, hg2⟩
      have hal : (accL l).length ≤ 30 := by have := accL_len l l.length; rw [List.take_length] at this; omega
      have HT := Lib.hid hT; have HCA := Lib.hid hca; have G2 := Lib.hid (G1.out.trans hg2)
      have HAA := Lib.hid (fun k h => addA_all l more k h)
      have HCL := Lib.hid (cloneT _ bt bm (accL l) w2 hT (by omega))
      clear hT hca hg2
      generalize hacc : accL l = acc at *
      clear hacc a1 a2
      go_wp2_with fail
      refine HCL.out.mono ?_
      rintro e w3 ⟨ct, cm, rfl, hC, hg3⟩
      have HC := Lib.hid hC; have G3 := Lib.hid hg3
      have HE1 := Lib.hid (equalT_same _ _ ct cm bt bm acc w3 hC (HT.out.gr hg3))
      clear hC hg3 HCL
      go_wp2_with fail
      refine HE1.out.mono ?_
      rintro e w4 ⟨rfl, hg4⟩
      have G4 := Lib.hid hg4
      have HE2 := Lib.hid (equalT_same _ _ bt bm ct cm acc w4 (HT.out.gr (G3.out.trans hg4)) (HC.out.gr hg4))
      clear hg4 HE1
      go_wp2_with fail
      refine HE2.out.mono ?_
      rintro e w5 ⟨rfl, hg5⟩
      have G5 := Lib.hid (G4.out.trans hg5)
      have HT5 : Hid (TmAt w5 w2.heap.size ct cm acc) := HC.out.gr (G4.out.trans hg5)
      clear hg5 HE2
      go_wp2_with fail
      go_loopw [9, 10, 49, 50, 51, 52, 53, 54, 55, 56, 57, 58, 59, 60, 61, 62, 63] (fun nv i _ _ _ _ _ _ _ _ _ _ _ _ _ _ _ wr => ∃ (k d : Nat), k ≤ more.length ∧ i = .int .i64 k ∧ nv = .int .i64 d ∧ (addA acc more k).length = acc.length + d ∧ Hid (TmAt wr w2.heap.size ct cm (addA acc more k)) ∧ Hid (Gr w2 wr)) (fun _ i _ _ _ _ _ _ _ _ _ _ _ _ _ _ _ _ => more.length - (intOf i).toNat)
      case atStart => exact ⟨0, 0, Nat.zero_le _, rfl, rfl, rfl, HT5.out, G3.out.trans G5.out⟩
      case round =>
        obtain ⟨k, d, hk, rfl, rfl, hd, hT, hG⟩ := hrel
        have hdk : acc.length + d ≤ acc.length + k := by rw [← hd]; exact addA_len acc more k
        have GW := Lib.hid (G2.out.trans hG.out)
        by_cases hlt : k < more.length
        · obtain ⟨b, o, rfl, hb, q1, q2⟩ := HMJ.out k (by simpa using hlt)
          have u1 := (GW.out.hasRow hb).trans q1
          have u2 := (GW.out.rowAt hb).trans q2
          rw [List.getElem_map] at u2
          have HSU := Lib.hid (addA_succ acc more k hlt)
          have hk1 : (k : Int) < (more.length : Int) := by omega
          have hk2 : (0 : Int) ≤ (k : Int) := by omega
          clear q1 q2
          generalize more[k] = y at *
          have HADD := Lib.hid (addT w2.heap.size ct cm (addA acc more k) y wr hT.out (by omega))
          have HD := Lib.hid hd
          generalize addA acc more k = cur at *
          clear hd
          go_wp2_with fail
          refine HADD.out.mono ?_
          rintro e w6 ⟨rfl, hT6, hg6⟩
          have T6 := Lib.hid hT6
          have G6 := Lib.hid (hG.out.grown hg6 (fun k hk => by cases hk; exact hT6.2.1))
          clear hT6 hg6 HADD
          by_cases h0 : addErr cur y = 0
          · have HAL : Hid (addL cur y = cur ++ [y]) := by show _ = _; unfold addL; rw [if_pos h0]
            rw [h0]
            clear h0
            go_wp2_with fail
            go_roundw
            case rel => exact ⟨k + 1, d + 1, by omega, by go_num, by go_num, by rw [HSU.out, HAL.out, List.length_append, HD.out]; simp; omega, by show TmAt _ _ _ _ _; rw [HSU.out]; exact T6.out, G6.out⟩
            case measure => simp [intOf]; omega
          · have HAL : Hid (addL cur y = cur) := by show _ = _; unfold addL; rw [if_neg h0]
            have hne0 : (addErr cur y == 0) = false := by simpa using h0
            go_wp2_with fail
            go_roundw
            case rel => exact ⟨k + 1, d, by omega, by go_num, rfl, by rw [HSU.out, HAL.out]; exact HD.out, by show TmAt _ _ _ _ _; rw [HSU.out]; exact T6.out, G6.out⟩
            case measure => simp [intOf]; omega
        · have hk1 : ¬ (k : Int) < (more.length : Int) := by omega
          have HAE := Lib.hid (HAA.out k (by omega))
          have HSAME : Hid (d = 0 → addA acc more k = acc) := fun h => addA_same acc more k (by omega)
          have O1 := Lib.hid (owns_empty wr wr.heap.size 27 81 (Nat.le_refl _))
          have SV1 := Lib.hid (SlAt.gr HV.out (GW.out.alloc (.cells #[] 27)))
          have hcl : (addA acc more k).length ≤ 60 := by omega
          have HD := Lib.hid hd
          generalize addA acc more k = cur at *
          clear hd
          go_wp2_with (first | (at_builtin; refine wpList_append_sl _ rfl _ _ 40 rfl wr.heap.size 27 i0 z0 81 88 Tryz.underlying40 HI0.out hz0 hz1 hz2 HZ.out (by decide) (.slice (some ⟨wr.heap.size, 0, none⟩) 0 0) 0 [] rfl O1.out (.slice va l.length vc) (l.map cancC) rfl SV1.out (map_cancC_len l) (cancRows_one l) (by simp; omega) (by decide) (by simp) ?_; intro a7 c7 w7 ho7 hg7 _; simp only [Nat.zero_add, List.length_map, List.nil_append] at ho7 ⊢; have G7 := Lib.hid (((Gr.refl wr).alloc (.cells #[] 27)).grown hg7 (fun k' hk' => by cases hk'; exact Nat.le_refl _)); have hs7 : Hid (wr.heap.size ≤ w7.heap.size) := Nat.le_trans (by simp) hg7.size; have O7 := Lib.hid ho7; have SV2 := Lib.hid (SlAt.gr HM.out (GW.out.trans G7.out)); clear hg7 ho7) | (at_builtin; refine wpList_append_sl _ rfl _ _ 40 rfl wr.heap.size 27 i0 z0 81 88 Tryz.underlying40 HI0.out hz0 hz1 hz2 HZ.out (by decide) (.slice a7 l.length c7) l.length (l.map cancC).flatten rfl O7.out (.slice ma more.length mc) (more.map cancC) rfl SV2.out (map_cancC_len more) (cancRows_one more) (by simp; omega) (by decide) hs7.out ?_; intro a8 c8 w8 ho8 hg8 _; simp only [List.length_map] at ho8 ⊢; have G8 := Lib.hid (G7.out.grown hg8 (fun k' hk' => (O7.out.lt k' hk').1)); have O8 := Lib.hid ho8; clear hg8 ho8))
          have HCA8 : Hid (CancsAt w8 (.slice a8 (l ++ more).length c8) (l ++ more)) := slAt_of_owns (map_cancC_len _) (by rw [List.length_map, List.length_append, List.map_append, List.flatten_append]; exact O8.out)
          have HBD := Lib.hid (buildT (l ++ more) _ w8 HCA8.out (by rw [List.length_append]; omega))
          unfold BuildPost at HBD
          rw [← HAE.out, List.length_append] at HBD
          refine HBD.out.mono ?_
          rintro e w9 ⟨ot, om, oa, oc, rfl, hO, _, hg9⟩
          have GC9 := Lib.hid (G8.out.trans hg9)
          have GT9 := Lib.hid (hG.out.trans GC9.out)
          have HO := Lib.hid hO
          have HHO := Lib.hid (holdsC _ bt bm acc _ w9 (HT.out.gr GT9.out) (by omega) (HCA.out.gr GT9.out))
          clear hO hg9 HBD
          go_wp2_with fail
          refine HHO.out.mono ?_
          rintro e w10 ⟨rfl, hg10⟩
          have HC10 := Lib.hid (hT.out.gr (GC9.out.trans hg10))
          have HT10 := Lib.hid (HT.out.gr (GT9.out.trans hg10))
          have HO10 := Lib.hid (HO.out.gr hg10)
          have GW10 := Lib.hid (G2.out.trans (GT9.out.trans hg10))
          have HLEN := Lib.hid (lenT _ ct cm cur w10 HC10.out)
          have HLE : Hid ((cur.length : Int) = (acc.length : Int) + (d : Int)) := by show _ = _; rw [HD.out]; simp
          clear hg10 HHO
          go_wp2_with fail
          refine HLEN.out.mono ?_
          rintro e w10' ⟨rfl, rfl⟩
          clear HLEN
          by_cases hd0 : d = 0
          · have HCE := HSAME.out hd0
            subst hd0
            rw [← HCE] at HT10
            rw [HLE.out]
            go_wp2_with fail
            refine (equalT_same _ _ ct cm bt bm cur w10 (HC10.out.gr (Gr.refl w10)) HT10.out).mono ?_
            rintro e w11 ⟨rfl, hg11⟩
            have G11 := Lib.hid hg11
            clear hg11
            go_wp2_with fail
            refine (equalT_same _ _ bt bm ct cm cur w11 (HT10.out.gr G11.out) (HC10.out.gr G11.out)).mono ?_
            rintro e w12 ⟨rfl, hg12⟩
            have G12 := Lib.hid (G11.out.trans hg12)
            clear hg12
            go_wp2_with fail
            refine (equalT_same _ _ ct cm ot om cur w12 (HC10.out.gr G12.out) (HO10.out.gr G12.out)).mono ?_
            rintro e w13 ⟨rfl, hg13⟩
            have G13 := Lib.hid (G12.out.trans hg13)
            clear hg13
            go_wp2_with fail
            refine (equalT_same _ _ ot om ct cm cur w13 (HO10.out.gr G13.out) (HC10.out.gr G13.out)).mono ?_
            rintro e w14 ⟨rfl, hg14⟩
            go_wp2_with fail
            go_ret
            exact ⟨rfl, GW10.out.trans (G13.out.trans hg14)⟩

          · have hdz : ((d : Int) == 0) = false := by simp; omega
            rw [HLE.out]
            go_wp2_with fail
            refine (equalT_ne _ _ ct cm bt bm cur acc w10 (HC10.out.gr (Gr.refl w10)) HT10.out (by have := HD.out; omega)).mono ?_
            rintro e w11 ⟨rfl, hg11⟩
            have G11 := Lib.hid hg11
            clear hg11
            go_wp2_with fail
            refine (equalT_ne _ _ bt bm ct cm acc cur w11 (HT10.out.gr G11.out) (HC10.out.gr G11.out) (by have := HD.out; omega)).mono ?_
            rintro e w12 ⟨rfl, hg12⟩
            have G12 := Lib.hid (G11.out.trans hg12)
            clear hg12
            go_wp2_with fail
            refine (equalT_same _ _ ct cm ot om cur w12 (HC10.out.gr G12.out) (HO10.out.gr G12.out)).mono ?_
            rintro e w13 ⟨rfl, hg13⟩
            have G13 := Lib.hid (G12.out.trans hg13)
            clear hg13
            go_wp2_with fail
            refine (equalT_same _ _ ot om ct cm cur w13 (HO10.out.gr G13.out) (HC10.out.gr G13.out)).mono ?_
            rintro e w14 ⟨rfl, hg14⟩
            go_wp2_with fail
            go_ret
            exact ⟨rfl, GW10.out.trans (G13.out.trans hg14)⟩

    · have a2 : decide ((30 : Int) < (more.length : Int)) = true := by simp; omega
      go_wp2_with fail
      refine (HK.out _ (HE.out.gr G1.out)).mono ?_
      rintro e w3 ⟨rfl, hg3⟩
      go_wp2_with fail
      go_ret
      exact ⟨rfl, G1.out.trans hg3⟩
  · have a1 : decide ((30 : Int) < (l.length : Int)) = true := by simp; omega
    go_wp2_with fail
    refine (HK.out _ (HE.out.gr G1.out)).mono ?_
    rintro e w3 ⟨rfl, hg3⟩
    go_wp2_with fail
    go_ret
    exact ⟨rfl, G1.out.trans hg3⟩
end Go.Proofs.YtemhfcfebkjioaaGreatDoor

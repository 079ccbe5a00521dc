/- The law CancelMonotone returns true. -/
import Derived.Test.YtemhfcfebkjioaaGreatDoorHas
import Derived.Test.YtemhfcfebkjioaaGreatDoorWdr
import Derived.Test.YtemhfcfebkjioaaGreatDoorWCounts
namespace Go.Proofs.YtemhfcfebkjioaaGreatDoor
open Go.RowKit

/-- What is known of the articles at the start. -/
def RowsIn (w : World) (v : Value) (rows : List (Rw × List ByteArray)) : Prop := SlAt w v 83 (rows.map fun x => rwC x.1) ∧ ∀ x ∈ rows, StrsAt w x.1.groups x.2 ∧ oneB (rwC x.1) = true
theorem rowsIn_few {w : World} {v : Value} {rows : List (Rw × List ByteArray)} (h : RowsIn w v rows) {m : Nat} (hf : fewB (rows.map (·.1)) m = true) : RowsAt w v rows ∧ rows.length ≤ 30 ∧ m ≤ 30 := by
  unfold fewB at hf
  simp only [Bool.and_eq_true, decide_eq_true_eq, List.length_map] at hf
  refine ⟨⟨h.1, fun x hx => ⟨(h.2 x hx).1, (h.2 x hx).2, ?_⟩⟩, hf.2.1, hf.2.2⟩
  have h1 := List.all_eq_true.1 hf.1 x.1 (List.mem_map_of_mem hx)
  obtain ⟨a, c, hg, _⟩ := (h.2 x hx).1
  unfold smallB grpLen at h1
  rw [hg] at h1
  simp at h1
  omega
theorem RowsIn.slots {w : World} {v : Value} {rows : List (Rw × List ByteArray)} (h : RowsIn w v rows) : SlAt w v 83 ((rows.map (·.1)).map rwC) ∧ ∀ x ∈ rows.map (·.1), ∃ a n c, x.groups = .slice a n c := by
  refine ⟨by have := h.1; rwa [List.map_map], fun x hx => ?_⟩
  obtain ⟨y, hy, rfl⟩ := List.mem_map.1 hx
  obtain ⟨a, c, hg, _⟩ := (h.2 y hy).1
  exact ⟨_, _, _, hg⟩
theorem mono_has {ents ents' ds fs : List (Dfn × List Aut)} {l more : List Canc} {rows : List (Rw × List ByteArray)} {s s' : List Id} (h1 : ents.map vis = madeV ds 12) (h2 : ents'.map vis = madeV (ds ++ fs) 12) (hl : (ds ++ fs).length ≤ 12) (hs : ∀ i, i ∈ s ↔ i ∈ goneIds ents l rows) (hs' : ∀ i, i ∈ s' ↔ i ∈ goneIds ents' (l ++ more) rows) (i : Id) (hi : i ∈ s) : hasE s' i = true := by
  rw [hasE_iff, hs', goneIds_mem]
  obtain ⟨x, hx, hg, he⟩ := (goneIds_mem ents l rows i).1 ((hs i).1 hi)
  exact ⟨x, hx, gone_more h1 h2 hl l more x hg, he⟩
theorem dfnRows_len (ds : List (Dfn × List Aut)) : ∀ r ∈ ds.map (fun e => dfnC e.1), r.length = 54 := by
  intro r hr; obtain ⟨x, _, rfl⟩ := List.mem_map.1 hr; exact dfnC_length x.1
theorem dfnRows_one {w : World} {v : Value} {ds : List (Dfn × List Aut)} (h : DefsAt w v ds) : ∀ r ∈ ds.map (fun e => dfnC e.1), oneB r = true := by
  intro r hr; obtain ⟨x, hx, rfl⟩ := List.mem_map.1 hr; exact auts_one (h.2 x hx)
theorem cancRows_one (l : List Canc) : ∀ r ∈ l.map cancC, oneB r = true := by
  intro r hr; obtain ⟨x, _, rfl⟩ := List.mem_map.1 hr; exact canc_one x
theorem owns_empty (w : World) (base : Nat) (e : TypeId) (size : Nat) (hb : base ≤ w.heap.size) : (w.alloc (.cells #[] e)).ownsRow base e size (.slice (some ⟨w.heap.size, 0, none⟩) 0 0) 0 [] :=
  ⟨by simp, .inr ⟨w.heap.size, 0, #[], rfl, hb, heap_alloc_new w _, Nat.le_refl _, Nat.zero_le _, by simp, by simp⟩⟩
set_option maxRecDepth 100000 in
set_option maxHeartbeats 2000000 in
theorem wMono (hK : KnownOk) (rows : List (Rw × List ByteArray)) (vr : Value) (l : List Canc) (v : Value) (more : List Canc) (vm : Value) (ds : List (Dfn × List Aut)) (vd : Value) (fs : List (Dfn × List Aut)) (vf : Value) (w : World) (hE : Env w)
    (hr : RowsIn w vr rows) (hrl : rows.length ≤ 9223372036854775807) (hv : CancsAt w v l) (hll : l.length ≤ 9223372036854775807) (hm : CancsAt w vm more) (hml : more.length ≤ 9223372036854775807) (hd : DefsAt w vd ds) (hdl : ds.length ≤ 9223372036854775807) (hf : DefsAt w vf fs) (hfl : fs.length ≤ 9223372036854775807) :
    Calls Tryz.prog 7 #[vr, v, vm, vd, vf] w fun e w' => e = .returned (.bool true) ∧ Gr w w' := by
  have HK := Lib.hid hK
  have HR := Lib.hid hr; have HV := Lib.hid hv; have HM := Lib.hid hm; have HD := Lib.hid hd; have HF := Lib.hid hf; have HE := Lib.hid hE
  obtain ⟨⟨ra, rc, hrv, hrc, _⟩, _⟩ := id hr
  obtain ⟨va, vc, hvv, hvc, _⟩ := id hv
  obtain ⟨ma, mc, hmv, hmc, _⟩ := id hm
  obtain ⟨⟨da, dc, hdv, hdc, _⟩, _⟩ := id hd
  obtain ⟨⟨fa, fc, hfv, hfc, _⟩, _⟩ := id hf
  rw [List.length_map] at hrv hvv hmv hdv hfv
  subst hrv; subst hvv; subst hmv; subst hdv; subst hfv
  obtain ⟨hfs1, hfs2⟩ := hr.slots
  have HFEW := Lib.hid (fun W (hg : Gr w W) => fewC (rows.map (·.1)) _ va l.length vc W (hfs1.gr hg) hfs2 (by simpa using hrl) hll)
  obtain ⟨z0, hinfo, hzs⟩ := infoCanc
  obtain ⟨i0, hi0, hz0, hz1, hz2⟩ := info_parts hinfo
  have HZ := Lib.hid hzs; have HI0 := Lib.hid hi0
  obtain ⟨y0, yinfo, yzs⟩ := infoDfn
  obtain ⟨j0, hj0, hy0, hy1, hy2⟩ := info_parts yinfo
  have HY := Lib.hid yzs; have HJ0 := Lib.hid hj0
  clear hr hv hm hd hf hE hfs1 hfs2 hinfo hzs hi0 yinfo yzs hj0
  go_enter Tryz.func7, Tryz.ntmps7
  go_wp2_with fail
  refine (HK.out w HE.out).mono ?_
  rintro e w1 ⟨rfl, hg1⟩
  have G1 := Lib.hid hg1
  clear hg1
  go_wp2_with fail
  refine (HFEW.out w1 G1.out).mono ?_
  rintro e w2 ⟨rfl, rfl⟩
  have hEnd : Hid (Calls Tryz.prog 12 #[] w1 fun e w' => e = .returned (.bool true) ∧ Gr w1 w') := HK.out _ (HE.out.gr G1.out)
  cases hfew : fewB (rows.map (·.1)) l.length with
  | false =>
    go_wp2_with fail
    refine hEnd.out.mono ?_
    rintro e w3 ⟨rfl, hg3⟩
    go_wp2_with fail
    go_ret
    exact ⟨rfl, G1.out.trans hg3⟩
  | true =>
    obtain ⟨hRA, hr30, hl30⟩ := rowsIn_few HR.out hfew
    have HRA := Lib.hid hRA
    clear hRA hfew
    by_cases hm30 : more.length ≤ 30
    · by_cases hd6 : ds.length ≤ 6
      · by_cases hf6 : fs.length ≤ 6
        · have a1 : decide ((30 : Int) < (more.length : Int)) = false := by simp; omega
          have a2 : decide ((6 : Int) < (ds.length : Int)) = false := by simp; omega
          have a3 : decide ((6 : Int) < (fs.length : Int)) = false := by simp; omega
          go_wp2_with fail
          refine (madeC ds _ w1 (HE.out.gr G1.out) (HD.out.gr G1.out) hdl).mono ?_
          rintro e w3 ⟨br, ents, rfl, hreg, hvis, hg3⟩
          have G3 := Lib.hid (G1.out.trans hg3); have HVI := Lib.hid hvis; have HREG := Lib.hid hreg
          have HW1 := Lib.hid (withdrawnC rows _ l _ (some br) ents w3 hreg (HRA.out.gr G3.out) (by omega) (HV.out.gr G3.out) (by omega))
          unfold ptrV at HW1 ⊢
          clear hg3 hvis hreg
          go_wp2_with fail
          refine HW1.out.mono ?_
          rintro e w4 ⟨sa, sn, sc, s, rfl, hids, _, hmem, hsl, hg4⟩
          have G4 := Lib.hid (G3.out.trans hg4); have HI := Lib.hid hids; have HMEM := Lib.hid hmem
          clear hids hmem hg4 HW1
          have O1 := Lib.hid (owns_empty w4 w4.heap.size 27 81 (Nat.le_refl _))
          have SV1 := Lib.hid (SlAt.gr HV.out (G4.out.alloc (.cells #[] 27)))
          have OD1 := Lib.hid (dfnRows_one HD.out)
          have OF1 := Lib.hid (dfnRows_one HF.out)
          go_wp2_with (first | (at_builtin; refine wpList_append_sl _ rfl _ _ 40 rfl w4.heap.size 27 i0 z0 81 88 Tryz.underlying40 HI0.out hz0 hz1 hz2 HZ.out (by decide) (.slice (some ⟨w4.heap.size, 0, none⟩) 0 0) 0 [] rfl O1.out (.slice va l.length vc) (l.map cancC) rfl SV1.out (map_cancC_len l) (cancRows_one l) (by simp; omega) (by decide) (by simp) ?_; intro a5 c5 w5 ho5 hg5 _; simp only [Nat.zero_add, List.length_map, List.nil_append] at ho5 ⊢; have G5 := Lib.hid ((G4.out.alloc (.cells #[] 27)).grown hg5 (fun k' hk' => by cases hk'; exact G4.out.size)); have G45 := Lib.hid (((Gr.refl w4).alloc (.cells #[] 27)).grown hg5 (fun k' hk' => by cases hk'; exact Nat.le_refl _)); have hs5 : Hid (w4.heap.size ≤ w5.heap.size) := Nat.le_trans (by simp) hg5.size; have O5 := Lib.hid ho5; have SV2 := Lib.hid (SlAt.gr HM.out G5.out); clear hg5 ho5) | (at_builtin; refine wpList_append_sl _ rfl _ _ 40 rfl w4.heap.size 27 i0 z0 81 88 Tryz.underlying40 HI0.out hz0 hz1 hz2 HZ.out (by decide) (.slice a5 l.length c5) l.length (l.map cancC).flatten rfl O5.out (.slice ma more.length mc) (more.map cancC) rfl SV2.out (map_cancC_len more) (cancRows_one more) (by simp; omega) (by decide) hs5.out ?_; intro a6 c6 w6 ho6 hg6 _; simp only [List.length_map] at ho6 ⊢; have G6 := Lib.hid (G5.out.grown hg6 (fun k' hk' => Nat.le_trans G4.out.size (O5.out.lt k' hk').1)); have G46 := Lib.hid (G45.out.grown hg6 (fun k' hk' => (O5.out.lt k' hk').1)); have HCA : Hid (CancsAt w6 (.slice a6 (l.length + more.length) c6) (l ++ more)) := (slAt_of_owns (w := w6) (v := .slice a6 (l.length + more.length) c6) (base := w4.heap.size) (e := 27) (map_cancC_len (l ++ more)) (by simpa using ho6)); clear hg6 ho6; have O6 := Lib.hid (owns_empty w6 w6.heap.size 52 54 (Nat.le_refl _)); have SD1 := Lib.hid (HD.out.gr (G6.out.alloc (.cells #[] 52)))) | (at_builtin; refine wpList_append_sl _ rfl _ _ 32 rfl w6.heap.size 52 j0 y0 54 120 Tryz.underlying32 HJ0.out hy0 hy1 hy2 HY.out (by decide) (.slice (some ⟨w6.heap.size, 0, none⟩) 0 0) 0 [] rfl O6.out (.slice da ds.length dc) (ds.map fun e => dfnC e.1) rfl SD1.out.1 (dfnRows_len ds) OD1.out (by simp; omega) (by decide) (by simp) ?_; intro a7 c7 w7 ho7 hg7 _; simp only [Nat.zero_add, List.length_map, List.nil_append] at ho7 ⊢; have G67 := Lib.hid (((Gr.refl w6).alloc (.cells #[] 52)).grown hg7 (fun k' hk' => by cases hk'; exact Nat.le_refl _)); have O7 := Lib.hid ho7; have SF1 := Lib.hid (HF.out.gr (G6.out.trans G67.out)); have hs7 : Hid (w6.heap.size ≤ w7.heap.size) := G67.out.size; clear hg7 ho7) | (at_builtin; refine wpList_append_sl _ rfl _ _ 32 rfl w6.heap.size 52 j0 y0 54 120 Tryz.underlying32 HJ0.out hy0 hy1 hy2 HY.out (by decide) (.slice a7 ds.length c7) ds.length (ds.map fun e => dfnC e.1).flatten rfl O7.out (.slice fa fs.length fc) (fs.map fun e => dfnC e.1) rfl SF1.out.1 (dfnRows_len fs) OF1.out (by simp; omega) (by decide) hs7.out ?_; intro a8 c8 w8 ho8 hg8 _; simp only [List.length_map] at ho8 ⊢; have O8 := Lib.hid ho8; have G68 := Lib.hid (G67.out.grown hg8 (fun k' hk' => (O7.out.lt k' hk').1)); clear hg8 ho8))
          have ho8 := O8.out
          have g68 := G68.out
          have G8 := Lib.hid (G6.out.trans g68)
          have G48 := Lib.hid (G46.out.trans g68)
          have HDA : Hid (DefsAt w8 (.slice a8 (ds.length + fs.length) c8) (ds ++ fs)) := by
            refine ⟨slAt_of_owns (w := w8) (v := .slice a8 (ds.length + fs.length) c8) (base := w6.heap.size) (e := 52) (dfnRows_len (ds ++ fs)) (by simpa using ho8), fun e he => ?_⟩
            rcases List.mem_append.1 he with he | he
            · exact (HD.out.2 e he).gr G8.out
            · exact (HF.out.2 e he).gr G8.out
          have HCA8 := Lib.hid (SlAt.gr HCA.out g68)
          have hl12 : (ds ++ fs).length ≤ 12 := by rw [List.length_append]; omega
          have HL12 := Lib.hid hl12
          clear ho8 g68 hl12
          refine (madeC (ds ++ fs) _ w8 (HE.out.gr G8.out) HDA.out (by have := HL12.out; omega)).mono ?_
          rintro e w9 ⟨br', ents', rfl, hreg', hvis', hg9⟩
          have G9 := Lib.hid (G8.out.trans hg9)
          have G49 := Lib.hid (G48.out.trans hg9)
          have HV2 := Lib.hid hvis'
          have HW2 := Lib.hid (withdrawnC rows _ (l ++ more) _ (some br') ents' w9 hreg' (HRA.out.gr G9.out) (by omega) (SlAt.gr HCA8.out hg9) (by rw [List.length_append]; omega))
          unfold ptrV at HW2 ⊢
          clear hg9 hreg' hvis'
          go_wp2_with fail
          refine HW2.out.mono ?_
          rintro e w10 ⟨ta, tn, tc, s2, rfl, hids2, _, hmem2, hsl2, hg10⟩
          have G10 := Lib.hid (G9.out.trans hg10); have HI2 := Lib.hid hids2
          have HALL := Lib.hid (fun i hi => mono_has HVI.out HV2.out HL12.out HMEM.out hmem2 i hi)
          obtain ⟨xa, xc, hxv, hxc, hxj⟩ := HI.out.gr (G49.out.trans hg10)
          rw [List.length_map] at hxv hxc
          injection hxv with q1 q2 q3
          subst q1; subst q2; subst q3
          have HXJ := Lib.hid hxj
          clear hids2 hmem2 hg10 HW2 hxj
          go_wp2_with fail
          go_loopw [15, 70, 71, 72, 73, 74, 75, 76, 77, 78, 79, 80, 81, 82, 83] (fun i _ _ _ _ _ _ _ _ _ _ _ _ _ _ wr => ∃ k : Nat, k ≤ s.length ∧ i = .int .i64 k ∧ Hid (Gr w10 wr)) (fun i _ _ _ _ _ _ _ _ _ _ _ _ _ _ _ => s.length - (intOf i).toNat)
          case atStart => exact ⟨0, Nat.zero_le _, rfl, Gr.refl _⟩
          case round =>
            obtain ⟨k, hk, rfl, hG⟩ := hrel
            by_cases hlt : k < s.length
            · obtain ⟨b, o, rfl, hb, p1, p2⟩ := HXJ.out k (by simpa using hlt)
              rw [List.getElem_map] at p2
              have u1 := (hG.out.hasRow hb).trans p1
              have u2 := (hG.out.rowAt hb).trans p2
              have hk1 : (k : Int) < (s.length : Int) := by omega
              have hk2 : (0 : Int) ≤ (k : Int) := by omega
              have HHAS := Lib.hid (hasC s2 ta tn tc s[k] wr (HI2.out.gr hG.out) hsl2)
              rw [HALL.out s[k] (List.getElem_mem hlt)] at HHAS
              clear p1 p2
              generalize s[k] = y at *
              go_wp2_with fail
              refine HHAS.out.mono ?_
              rintro e w11 ⟨rfl, hg11⟩
              have G11 := Lib.hid (hG.out.trans hg11)
              clear hg11 HHAS u1 u2
              go_wp2_with fail
              go_roundw
              case rel => exact ⟨k + 1, by omega, by go_num, G11.out⟩
              case measure => simp [intOf]; omega
            · have hk1 : ¬ (k : Int) < (s.length : Int) := by omega
              go_wp2_with fail
              go_ret
              exact ⟨rfl, G10.out.trans hG.out⟩
        · have a1 : decide ((30 : Int) < (more.length : Int)) = false := by simp; omega
          have a2 : decide ((6 : Int) < (ds.length : Int)) = false := by simp; omega
          have a3 : decide ((6 : Int) < (fs.length : Int)) = true := by simp; omega
          go_wp2_with fail
          refine hEnd.out.mono ?_
          rintro e w3 ⟨rfl, hg3⟩
          go_wp2_with fail
          go_ret
          exact ⟨rfl, G1.out.trans hg3⟩
      · have a1 : decide ((30 : Int) < (more.length : Int)) = false := by simp; omega
        have a2 : decide ((6 : Int) < (ds.length : Int)) = true := by simp; omega
        go_wp2_with fail
        refine hEnd.out.mono ?_
        rintro e w3 ⟨rfl, hg3⟩
        go_wp2_with fail
        go_ret
        exact ⟨rfl, G1.out.trans hg3⟩
    · have a1 : decide ((30 : Int) < (more.length : Int)) = true := by simp; omega
      go_wp2_with fail
      refine hEnd.out.mono ?_
      rintro e w3 ⟨rfl, hg3⟩
      go_wp2_with fail
      go_ret
      exact ⟨rfl, G1.out.trans hg3⟩
end Go.Proofs.YtemhfcfebkjioaaGreatDoor

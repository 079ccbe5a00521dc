/- The statement's Build and holds. -/
import Derived.Test.YtemhfcfebkjioaaGreatDoorTAdd
import Derived.Test.YtemhfcfebkjioaaGreatDoorByL
import Derived.Test.YtemhfcfebkjioaaGreatDoorTSeq
namespace Go.Proofs.YtemhfcfebkjioaaGreatDoor
section
open Go.RowKit

def BuildPost (l : List Canc) (w : World) (e : Ending) (w' : World) : Prop := ∃ bt bm a c, e = .returned (.tuple #[.pointer (some ⟨bt, 0, none⟩), .slice a (accL l).length c, .bool true]) ∧ TmAt w' w.heap.size bt bm (accL l) ∧ CancsAt w' (.slice a (accL l).length c) (accL l) ∧ Gr w w'
def wantE (acc : List Canc) (x : Id) (k : Nat) : Int := if hasId (acc.take k) x = true then 7 else 0
theorem wantE_zero (acc : List Canc) (x : Id) : wantE acc x 0 = 0 := by simp [wantE, hasId]
theorem hasId_succ (acc : List Canc) (x : Id) (k : Nat) (h : k < acc.length) : hasId (acc.take (k + 1)) x = (hasId (acc.take k) x || acc[k].id == x) := by
  unfold hasId; rw [List.take_succ_eq_append_getElem h, List.any_append]; simp
theorem wantE_hit (acc : List Canc) (x : Id) (k : Nat) (h : k < acc.length) (he : (acc[k].id == x) = true) : wantE acc x (k + 1) = 7 := by
  unfold wantE; rw [hasId_succ acc x k h, he, Bool.or_true]; rfl
theorem wantE_miss (acc : List Canc) (x : Id) (k : Nat) (h : k < acc.length) (he : (acc[k].id == x) = false) : wantE acc x (k + 1) = wantE acc x k := by
  unfold wantE; rw [hasId_succ acc x k h, he, Bool.or_false]
theorem want_all (acc : List Canc) (y : Canc) (k : Nat) (h : acc.length ≤ k) : addErr acc y = if dateBad y = true then 13 else wantE acc y.id k := by
  unfold addErr wantE; rw [List.take_of_length_le h]
theorem TmAt.kept {w w' : World} {n bt bm : Nat} {l : List Canc} (h : TmAt w n bt bm l) {row : Option Nat} (hg : w.grownBy w' row) (h1 : some bt ≠ row) (h2 : some bm ≠ row) : TmAt w' n bt bm l := by
  obtain ⟨q1, q2, q3, D, q4⟩ := h
  exact ⟨q1, q2, (hg.block bt (Array.getElem?_eq_some_iff.1 q3).1 h1).trans q3, D, q4.kept hg h2⟩
theorem wantE_cases (acc : List Canc) (x : Id) (k : Nat) : wantE acc x k = 0 ∨ wantE acc x k = 7 := by
  unfold wantE; split
  · exact .inr rfl
  · exact .inl rfl
set_option maxRecDepth 100000 in
set_option maxHeartbeats 4000000 in
theorem buildT (l : List Canc) (v : Value) (w : World) (hv : CancsAt w v l) (hll : l.length ≤ 900) :
    Calls Tryz.prog 23 #[v] w (BuildPost l w) := by
  have HV := Lib.hid hv
  obtain ⟨va, vc, rfl, hc, hj⟩ := hv
  have e1 : (l.map cancC).length = l.length := by simp
  rw [e1] at hc HV ⊢
  have HJ := Lib.hid hj
  obtain ⟨z0, hinfo, hzs⟩ := infoCanc
  obtain ⟨i0, hi, hz0, hz1, hz2⟩ := info_parts hinfo
  have HZ := Lib.hid hzs; have HI := Lib.hid hi
  clear hj e1 hinfo hzs hi
  go_enter Tryz.func23, Tryz.ntmps23
  go_wp2_with fail
  refine (newT w).mono ?_
  rintro e w1 ⟨bt, bm, rfl, hT, hg1⟩
  have G1 := Lib.hid hg1; have T1 := Lib.hid hT
  have hbt : w.heap.size ≤ bt := hT.1
  have hbm : w.heap.size ≤ bm := hT.2.1
  clear hT hg1
  go_wp2_with fail
  have hsz1 : bm < w1.heap.size := by obtain ⟨_, _, _, D, hD⟩ := T1.out; exact hD.own.lt
  have hsz2 : bt < w1.heap.size := by obtain ⟨_, _, h3, _⟩ := T1.out; exact (Array.getElem?_eq_some_iff.1 h3).1
  go_loopw [6, 7, 8, 9, 11, 12, 13, 14, 15, 16, 17, 18, 19, 20, 21, 22, 23, 24, 25, 26, 27, 28, 29, 30, 31, 32, 33, 34, 35, 36, 37, 38, 39, 40, 41, 42, 43, 44, 45, 46, 47, 48, 49, 50, 51, 52, 53, 54, 55, 56, 57, 58, 59, 61, 62, 63, 64, 65, 66, 67, 68, 69] (fun ov i _ _ _ _ _ _ _ _ _ _ _ _ _ _ _ _ _ _ _ _ _ _ _ _ _ _ _ _ _ _ _ _ _ _ _ _ _ _ _ _ _ _ _ _ _ _ _ _ _ _ _ _ _ _ _ _ _ _ _ _ wr => ∃ k : Nat, k ≤ l.length ∧ i = .int .i64 k ∧ Hid (Gr w wr) ∧ Hid (TmAt wr w.heap.size bt bm (accL (l.take k))) ∧ Hid (wr.ownsRow w1.heap.size 27 81 ov (accL (l.take k)).length ((accL (l.take k)).map cancC).flatten) ∧ Hid (w1.heap.size ≤ wr.heap.size)) (fun _ i _ _ _ _ _ _ _ _ _ _ _ _ _ _ _ _ _ _ _ _ _ _ _ _ _ _ _ _ _ _ _ _ _ _ _ _ _ _ _ _ _ _ _ _ _ _ _ _ _ _ _ _ _ _ _ _ _ _ _ _ _ => l.length - (intOf i).toNat)
  case atStart => exact ⟨0, Nat.zero_le _, rfl, G1.out, T1.out, ⟨rfl, .inl ⟨rfl, rfl⟩⟩, Nat.le_refl _⟩
  case round =>
    obtain ⟨k, hk, rfl, hG, hT, hown, hszr⟩ := hrel
    have halen := accL_len l k
    by_cases hlt : k < l.length
    · obtain ⟨b, o, rfl, hb, q1, q2⟩ := HJ.out k (by simpa using hlt)
      have u1 := (hG.out.hasRow hb).trans q1
      have u2 := (hG.out.rowAt hb).trans q2
      rw [List.getElem_map] at u2 q2
      have Q1 := Lib.hid q1; have Q2 := Lib.hid q2
      have HSU := Lib.hid (accL_succ l k hlt)
      have hk1 : (k : Int) < (l.length : Int) := by omega
      have hk2 : (0 : Int) ≤ (k : Int) := by omega
      clear q1 q2
      generalize l[k] = y at *
      generalize accL (l.take k) = acc at *
      go_wp2_with fail
      have hbw : b < wr.heap.size := Nat.lt_of_lt_of_le hb hG.out.size
      obtain ⟨oa, oc, hov, hnil⟩ := owns_slice hown.out
      clear hnil
      subst hov
      have hCA : CancsAt wr (.slice oa acc.length oc) acc := slAt_of_owns (map_cancC_len acc) (by rw [List.length_map]; exact hown.out)
      obtain ⟨oa', oc', hov, hcc, hja⟩ := id hCA
      injection hov with e1 e2 e3
      subst e1; subst e3
      rw [List.length_map] at hcc
      have hal : acc.length ≤ 900 := by omega
      have HA := Lib.hid hja
      clear hja hCA e2
      have i1 := sub_rowH u1 0 32 (by decide)
      have i2 := (sub_row u1 u2 0 32 (by decide)).trans (canc_id y)
      simp only [Nat.add_zero] at i1 i2
      have I1 := Lib.hid i1; have I2 := Lib.hid i2; have U1 := Lib.hid u1; have U2 := Lib.hid u2
      clear u1 u2 i1 i2
      go_loopw [8, 9, 17, 18, 19, 20, 21, 22, 23, 24, 25, 26, 27, 28, 29, 30, 31, 32, 33] (fun wv j _ _ _ _ _ _ _ _ _ _ _ _ _ _ _ _ _ wq => ∃ (m q : Nat), m ≤ acc.length ∧ j = .int .i64 m ∧ wv = .int .i64 (wantE acc y.id m) ∧ wq = wr.drewN q) (fun _ j _ _ _ _ _ _ _ _ _ _ _ _ _ _ _ _ _ _ => acc.length - (intOf j).toNat)
      case atStart => exact ⟨0, 0, Nat.zero_le _, rfl, by rw [wantE_zero], rfl⟩
      case round =>
        obtain ⟨m, q, hm, rfl, rfl, rfl⟩ := hrel
        by_cases hltm : m < acc.length
        · obtain ⟨b2, o2, rfl, z2, h3, h4⟩ := HA.out m (by simpa using hltm)
          rw [List.getElem_map] at h4
          have hm1 : (m : Int) < (acc.length : Int) := by omega
          have hm2 : (0 : Int) ≤ (m : Int) := by omega
          have j1 := sub_rowH h3 0 32 (by decide)
          have j2 := (sub_row h3 h4 0 32 (by decide)).trans (canc_id acc[m])
          simp only [Nat.add_zero] at j1 j2
          have i1 := I1.out; have i2 := I2.out
          have HWH := Lib.hid (fun e => wantE_hit acc y.id m hltm e)
          have HWM := Lib.hid (fun e => wantE_miss acc y.id m hltm e)
          generalize acc[m] = a at *
          clear h3 h4
          cases hx : (a.id == y.id) with
          | true =>
            have HX := Lib.hid (HWH.out hx)
            go_wp2_with fail
            go_quiet (fail)
            go_wp2_with fail
            go_roundw
            case rel => exact ⟨m + 1, _, by omega, by go_num, by rw [HX.out], rfl⟩
            case measure => simp [intOf]; omega
          | false =>
            have HX := Lib.hid (HWM.out hx)
            go_wp2_with fail
            go_quiet (fail)
            go_wp2_with fail
            go_roundw
            case rel => exact ⟨m + 1, _, by omega, by go_num, by rw [HX.out], rfl⟩
            case measure => simp [intOf]; omega
        · have HWA := Lib.hid (want_all acc y m (by omega))
          have hm1 : ¬ (m : Int) < (acc.length : Int) := by omega
          have hwc := wantE_cases acc y.id m
          generalize wantE acc y.id m = z at *
          have GQ := Lib.hid ((Gr.refl wr).drewN q)
          have d1 := (GQ.out.cell (p := ⟨b, o + k * 81 + 48, none⟩) hbw).trans (cell_of_rowK U1.out U2.out 48 (by decide) (canc_date y))
          have w1' := (GQ.out.hasRow hbw).trans U1.out
          have w2' := (GQ.out.rowAt hbw).trans U2.out
          have HADD := Lib.hid (addT w.heap.size bt bm acc y (wr.drewN q) (hT.out.gr GQ.out) (by omega))
          have HEND : Hid (∀ w5, TmAt w5 w.heap.size bt bm (addL acc y) → (wr.drewN q).grownBy w5 (some bm) → Gr w w5 ∧ w5.ownsRow w1.heap.size 27 81 (.slice oa acc.length oc) acc.length (acc.map cancC).flatten ∧ w1.heap.size ≤ w5.heap.size) := fun w5 _ hg5 => by
            refine ⟨(hG.out.trans GQ.out).grown hg5 (fun k hk => by cases hk; exact hbm), (hown.out.kept GQ.out.grownBy ?_).kept hg5 ?_, Nat.le_trans hszr.out (Nat.le_trans GQ.out.size hg5.size)⟩
            · cases hb : (Value.slice oa acc.length oc).ownBlock with
              | none => exact .inl rfl
              | some k => exact .inr (by simp)
            · cases hb : (Value.slice oa acc.length oc).ownBlock with
              | none => exact .inl rfl
              | some k => exact .inr (fun e => by have := (hown.out.lt k hb).1; injection e with e; omega)
          have HALL : Hid (addErr acc y ≠ 0 → addL acc y = acc) := fun h => by unfold addL; rw [if_neg h]
          clear hm1 hm hown hT
          generalize wr.drewN q = V at *
          by_cases hneg : y.date < 0
          · have hnd : decide (y.date < 0) = true := by simpa using hneg
            have HB : Hid (addErr acc y = 13) := by show _ = _; unfold addErr dateBad; simp [hneg]
            rw [HB.out] at HALL
            have HAL := Lib.hid (HALL.out (by decide))
            clear hneg HALL
            go_wp2_with fail
            refine HADD.out.mono ?_
            rintro e w5 ⟨rfl, hT5, hg5⟩
            obtain ⟨e1, e2, e3⟩ := HEND.out w5 hT5 hg5
            have E1 := Lib.hid e1; have E2 := Lib.hid e2; have E3 := Lib.hid e3; have T5 := Lib.hid hT5
            clear e1 e2 e3 hT5 hg5
            rw [HB.out]
            go_wp2_with fail
            go_roundw
            case rel => exact ⟨k + 1, by omega, by go_num, E1.out, by show TmAt _ _ _ _ _; rw [HSU.out]; exact T5.out, by show World.ownsRow _ _ _ _ _ _ _; rw [HSU.out, HAL.out]; exact E2.out, E3.out⟩
            case measure => simp [intOf]; omega
          · have hnd : decide (y.date < 0) = false := by simpa using hneg
            by_cases hbig : 105190559 < y.date
            · have hbd : decide (105190559 < y.date) = true := by simpa using hbig
              have HB : Hid (addErr acc y = 13) := by show _ = _; unfold addErr dateBad; simp [hbig]
              rw [HB.out] at HALL
              have HAL := Lib.hid (HALL.out (by decide))
              clear hneg hbig HALL
              go_wp2_with fail
              refine HADD.out.mono ?_
              rintro e w5 ⟨rfl, hT5, hg5⟩
              obtain ⟨e1, e2, e3⟩ := HEND.out w5 hT5 hg5
              have E1 := Lib.hid e1; have E2 := Lib.hid e2; have E3 := Lib.hid e3; have T5 := Lib.hid hT5
              clear e1 e2 e3 hT5 hg5
              rw [HB.out]
              go_wp2_with fail
              go_roundw
              case rel => exact ⟨k + 1, by omega, by go_num, E1.out, by show TmAt _ _ _ _ _; rw [HSU.out]; exact T5.out, by show World.ownsRow _ _ _ _ _ _ _; rw [HSU.out, HAL.out]; exact E2.out, E3.out⟩
              case measure => simp [intOf]; omega

            · have hbd : decide (105190559 < y.date) = false := by simpa using hbig
              have HDB : Hid (addErr acc y = z) := by show _ = _; rw [HWA.out]; unfold dateBad; rw [hnd, hbd]; rfl
              clear hneg hbig HWA
              rcases hwc with rfl | rfl
              · have HAL : Hid (addL acc y = acc ++ [y]) := by show _ = _; unfold addL; rw [if_pos HDB.out]
                clear HALL
                go_wp2_with fail
                refine HADD.out.mono ?_
                rintro e w5 ⟨rfl, hT5, hg5⟩
                obtain ⟨e1, e2, e3⟩ := HEND.out w5 hT5 hg5
                have v1 := (e1.hasRow hb).trans Q1.out
                have v2 := (e1.rowAt hb).trans Q2.out
                have E1 := Lib.hid e1; have E2 := Lib.hid (e2.alloc (.cells (cancC y).toArray 27)); have E3 := Lib.hid e3; have T5 := Lib.hid hT5
                have hnews : Hid (∀ j u, (cancC y)[j]? = some u → (w5.alloc (.cells (cancC y).toArray 27)).cell? ((⟨w5.heap.size, 0, none⟩ : Addr).add j) = some u) := by
                  intro j u hu
                  rw [Addr.add_lit, Nat.zero_add, World.cell?_alloc_at _ _ _ _ rfl]; simpa using hu
                have hnl : Hid ((cancC y).length = 1 * 81) := by show _ = _; rw [cancC_length]
                have h1c : Hid (∀ u ∈ cancC y, u.oneCell' = true) := fun u hu => List.all_eq_true.1 (canc_one y) u hu
                have hbs : Hid (w1.heap.size ≤ (w5.alloc (.cells (cancC y).toArray 27)).heap.size) := by show _ ≤ _; simp; omega
                clear e1 e2 e3 hT5 hg5
                rw [HDB.out]
                go_wp2_with (at_builtin; refine wpList_append_own _ rfl _ _ 40 rfl w1.heap.size 27 i0 z0 81 88 Tryz.underlying40 HI.out hz0 hz1 hz2 HZ.out (by decide) (.slice oa acc.length oc) acc.length (acc.map cancC).flatten rfl E2.out ⟨w5.heap.size, 0, none⟩ 1 1 (cancC y) rfl hnl.out hnews.out h1c.out (by unfold maxLen; omega) (by omega) hbs.out ?_; intro v' w6 hown6 hgrow6 hnil6)
                have HLT : ∀ k, (Value.slice oa acc.length oc).ownBlock = some k → w1.heap.size ≤ k := fun k hk => (E2.out.lt k hk).1
                go_roundw
                case rel =>
                  refine ⟨k + 1, by omega, by go_num, (E1.out.alloc _).grown hgrow6 (fun k hk => Nat.le_trans G1.out.size (HLT k hk)), ?_, ?_, ?_⟩
                  · show TmAt _ _ _ _ _
                    rw [HSU.out]
                    exact (T5.out.gr ((Gr.refl _).alloc _)).kept hgrow6 (fun e => by have := HLT bt e.symm; omega) (fun e => by have := HLT bm e.symm; omega)
                  · show World.ownsRow _ _ _ _ _ _ _
                    rw [HSU.out, HAL.out, List.length_append, List.map_append, List.flatten_append]
                    simpa using hown6
                  · have h1 := hgrow6.size; have h2 := E3.out; simp at h1; show _ ≤ _; omega
                case measure => simp [intOf]; omega
              · rw [HDB.out] at HALL
                have HAL := Lib.hid (HALL.out (by decide))
                have HB := HDB
                clear HALL
                go_wp2_with fail
                refine HADD.out.mono ?_
                rintro e w5 ⟨rfl, hT5, hg5⟩
                obtain ⟨e1, e2, e3⟩ := HEND.out w5 hT5 hg5
                have E1 := Lib.hid e1; have E2 := Lib.hid e2; have E3 := Lib.hid e3; have T5 := Lib.hid hT5
                clear e1 e2 e3 hT5 hg5
                rw [HB.out]
                go_wp2_with fail
                go_roundw
                case rel => exact ⟨k + 1, by omega, by go_num, E1.out, by show TmAt _ _ _ _ _; rw [HSU.out]; exact T5.out, by show World.ownsRow _ _ _ _ _ _ _; rw [HSU.out, HAL.out]; exact E2.out, E3.out⟩
                case measure => simp [intOf]; omega

    · have hke : l.take k = l := List.take_of_length_le (by omega)
      rw [hke] at hT hown
      have hk1 : ¬ (k : Int) < (l.length : Int) := by omega
      obtain ⟨oa, oc, hov, hnil⟩ := owns_slice hown.out
      subst hov
      have hCA : CancsAt wr (.slice oa (accL l).length oc) (accL l) := slAt_of_owns (map_cancC_len _) (by rw [List.length_map]; exact hown.out)
      have HCA := Lib.hid hCA
      clear hCA hnil
      go_wp2_with fail
      refine bodyPost_ret (results_tmp3 rfl _ _ _) rfl ?_
      exact ⟨bt, bm, oa, oc, rfl, hT.out, HCA.out, hG.out⟩
end
section
open Go.RowKit

/-- Whether y is among the first m. -/
def anyE (acc : List Canc) (y : Canc) (m : Nat) : Bool := (acc.take m).any fun a => cancEq a y
theorem anyE_zero (acc : List Canc) (y : Canc) : anyE acc y 0 = false := by simp [anyE]
theorem anyE_succ (acc : List Canc) (y : Canc) (m : Nat) (h : m < acc.length) : anyE acc y (m + 1) = (anyE acc y m || cancEq acc[m] y) := by
  unfold anyE; rw [List.take_succ_eq_append_getElem h, List.any_append]; simp
theorem anyE_all (acc : List Canc) (y : Canc) (m : Nat) (h : acc.length ≤ m) (hy : y ∈ acc) : anyE acc y m = true := by
  unfold anyE; rw [List.take_of_length_le h, List.any_eq_true]; exact ⟨y, hy, (cancEq_iff y y).2 rfl⟩
theorem incC_less {s : List Canc} (h : IncC s) (j : Nat) (h1 : j + 1 < s.length) : lessB s[j].id s[j + 1].id = true := by
  rw [lessB_num]
  have := List.pairwise_iff_getElem.1 h j (j + 1) (by omega) h1 (by omega)
  simpa using this
set_option maxRecDepth 100000 in
set_option maxHeartbeats 4000000 in
theorem holdsC (n bt bm : Nat) (acc : List Canc) (v : Value) (w : World) (h : TmAt w n bt bm acc) (hal : acc.length ≤ 900) (hv : CancsAt w v acc) :
    Calls Tryz.prog 24 #[.pointer (some ⟨bt, 0, none⟩), v] w fun e w' => e = .returned (.bool true) ∧ Gr w w' := by
  obtain ⟨va, vc, rfl, hvc, hj⟩ := hv
  have e1 : (acc.map cancC).length = acc.length := by simp
  rw [e1] at hvc ⊢
  have HT := Lib.hid h
  have HALL := Lib.hid (allT n bt bm acc w h (by omega))
  have HAP : Hid (acc.Pairwise fun y y' => y.id ≠ y'.id) := by obtain ⟨_, _, _, D, hD⟩ := h; exact hD.apart
  have HJ := Lib.hid hj
  clear h hj e1
  go_enter Tryz.func24, Tryz.ntmps24
  go_wp2_with fail
  refine HALL.out.mono ?_
  rintro e w1 ⟨s, sa, sc, hp, hs, rfl, hca, hg1⟩
  have hinc := Lib.hid (inc_of_perm hp HAP.out hs)
  have hsl : s.length = acc.length := hp.length_eq
  have HPM := Lib.hid hp
  obtain ⟨sa', sc', hov, hsc, hjs⟩ := hca
  injection hov with q1 q2 q3
  subst q1; subst q3
  rw [List.length_map] at hsc
  have HS := Lib.hid hjs; have G1 := Lib.hid hg1
  have HLEN := Lib.hid (lenT n bt bm acc w1 (HT.out.gr hg1))
  have HSL := Lib.hid hsl
  rw [hsl] at hsc ⊢
  clear q2 hp hs hjs hg1 hsl HALL HAP
  go_wp2_with fail
  refine HLEN.out.mono ?_
  rintro e w2 ⟨rfl, rfl⟩
  clear HLEN
  go_wp2_with fail
  go_loopw [6, 7, 8, 23, 24, 25, 26, 27, 28, 29, 30, 31, 32, 33, 34, 35, 36, 37, 38, 39, 40, 41, 42, 43, 44, 45, 46, 47, 48, 49, 50, 51, 52, 53, 54, 55, 56, 57, 58, 59, 60, 61, 62, 63, 64, 65] (fun i _ _ _ _ _ _ _ _ _ _ _ _ _ _ _ _ _ _ _ _ _ _ _ _ _ _ _ _ _ _ _ _ _ _ _ _ _ _ _ _ _ _ _ _ _ wr => ∃ k : Nat, k ≤ acc.length ∧ i = .int .i64 k ∧ Hid (Gr w1 wr)) (fun i _ _ _ _ _ _ _ _ _ _ _ _ _ _ _ _ _ _ _ _ _ _ _ _ _ _ _ _ _ _ _ _ _ _ _ _ _ _ _ _ _ _ _ _ _ _ => acc.length - (intOf i).toNat)
  case atStart => exact ⟨0, Nat.zero_le _, rfl, Gr.refl _⟩
  case round =>
    obtain ⟨k, hk, rfl, hG⟩ := hrel
    by_cases hlt : k < acc.length
    · have hlts : k < s.length := by rw [HSL.out]; exact hlt
      obtain ⟨b, o, rfl, hb, p1, p2⟩ := HS.out k (by simpa using hlts)
      rw [List.getElem_map] at p2
      have hbw : b < wr.heap.size := Nat.lt_of_lt_of_le hb hG.out.size
      have u1 := (hG.out.hasRow hb).trans p1
      have u2 := (hG.out.rowAt hb).trans p2
      have hk1 : (k : Int) < (acc.length : Int) := by omega
      have hk2 : (0 : Int) ≤ (k : Int) := by omega
      have HMEM : Hid (s[k] ∈ acc) := HPM.out.mem_iff.1 (List.getElem_mem hlts)
      have HLESS : Hid (∀ j, (h : k = j + 1) → lessB (s[j]'(by omega)).id s[k].id = true) := fun j h => by subst h; exact incC_less hinc.out j hlts
      have U1 := Lib.hid u1; have U2 := Lib.hid u2
      clear p1 p2
      cases k with
      | zero =>
        generalize s[0] = y at *
        rw [Nat.zero_mul, Nat.add_zero] at U1 U2
        clear HLESS HS u1 u2
        go_wp2_with fail
        refine wp_region_gr (by kernel_rfl) (by kernel_rfl) ?_
        repeat (go_big_quiet_step (fail))
        refine wpQuiet_nil ?_
        rintro _ ⟨p, rfl⟩
        have GU := Lib.hid (gr_gw wr p)
        have x1 := (GU.out.hasRow hbw).trans U1.out
        have x2 := (GU.out.rowAt hbw).trans U2.out
        have X1 := Lib.hid x1; have X2 := Lib.hid x2
        have HGU := Lib.hid (hG.out.trans (gr_gw wr p))
        clear U1 U2 x1 x2 GU
        generalize gw wr p = U at *
        go_wp2_with fail
        go_loopw [7, 8, 46, 47, 48, 49, 50, 51, 52, 53, 54, 55, 56, 57, 58, 59, 60, 61, 62, 63] (fun fv i _ _ _ _ _ _ _ _ _ _ _ _ _ _ _ _ _ _ wq => ∃ (m q : Nat), m ≤ acc.length ∧ i = .int .i64 m ∧ fv = .bool (anyE acc y m) ∧ wq = U.drewN q) (fun _ i _ _ _ _ _ _ _ _ _ _ _ _ _ _ _ _ _ _ _ => acc.length - (intOf i).toNat)
        case atStart => exact ⟨0, 0, Nat.zero_le _, rfl, by rw [anyE_zero], rfl⟩
        case round =>
          obtain ⟨m, q, hm, rfl, rfl, rfl⟩ := hrel
          by_cases hltm : m < acc.length
          · obtain ⟨b2, o2, rfl, z2, h3, h4⟩ := HJ.out m (by simpa using hltm)
            rw [List.getElem_map] at h4
            have g2 := G1.out.trans HGU.out
            have y1 := (g2.hasRow z2).trans h3
            have y2 := (g2.rowAt z2).trans h4
            have x1 := X1.out; have x2 := X2.out
            have hm1 : (m : Int) < (acc.length : Int) := by omega
            have hm2 : (0 : Int) ≤ (m : Int) := by omega
            have HSU := Lib.hid (anyE_succ acc y m hltm)
            generalize acc[m] = a at *
            clear h3 h4 g2 z2
            cases hf : anyE acc y m with
            | true =>
              have HX : Hid (anyE acc y (m + 1) = true) := by show _ = _; rw [HSU.out, hf]; rfl
              clear hf
              go_wp2_with fail
              go_quiet (fail)
              go_wp2_with fail
              go_roundw
              case rel => exact ⟨m + 1, _, by omega, by go_num, by rw [HX.out], rfl⟩
              case measure => simp [intOf]; omega
            | false =>
              have heql := fun W => eql_canc a y W
              have HX : Hid (anyE acc y (m + 1) = cancEq a y) := by show _ = _; rw [HSU.out, hf]; rfl
              clear hf
              go_wp2_with fail
              go_quiet (fail)
              go_wp2_with fail
              go_roundw
              case rel => exact ⟨m + 1, _, by omega, by go_num, by rw [HX.out], rfl⟩
              case measure => simp [intOf]; omega
          · have hm1 : ¬ (m : Int) < (acc.length : Int) := by omega
            have hff := anyE_all acc y m (by omega) HMEM.out
            have GQ := Lib.hid ((Gr.refl U).drewN q)
            go_wp2_with fail
            go_roundw
            case rel => exact ⟨0 + 1, by omega, by go_num, HGU.out.trans GQ.out⟩
            case measure => simp [intOf]; omega

      | succ j =>
        have hltj : j < s.length := by omega
        obtain ⟨b', o', hbo, _, p1, p2⟩ := HS.out j (by simpa using hltj)
        injection hbo with hbo
        injection hbo with e1 e2
        subst e1; subst e2
        rw [List.getElem_map] at p2
        have r1 := (hG.out.hasRow hb).trans p1
        have r2 := (hG.out.rowAt hb).trans p2
        have d1 := sub_rowH u1 0 32 (by decide)
        have d2 := (sub_row u1 u2 0 32 (by decide)).trans (canc_id _)
        have d3 := sub_rowH r1 0 32 (by decide)
        have d4 := (sub_row r1 r2 0 32 (by decide)).trans (canc_id _)
        simp only [Nat.add_zero] at d1 d2 d3 d4
        have hj1 : (j : Int) < (acc.length : Int) := by omega
        have hk3 : (j : Int) + 1 < (acc.length : Int) := by omega
        have hk4 : (0 : Int) ≤ (j : Int) + 1 := by omega
        have hk5 : ((j : Int) + 1).toNat = j + 1 := by omega
        have hj2 : (0 : Int) ≤ (j : Int) := by omega
        have HL := Lib.hid (HLESS.out j rfl)
        generalize s[j + 1] = y at *
        generalize s[j] = z at *
        have HC : Hid (∀ p : GD, Calls Tryz.prog 44 #[.agg (bC z.id).toArray, .agg (bC y.id).toArray] (gw wr p) fun e w'' => e = .returned (.bool true) ∧ ∃ q : GD, w'' = gw wr q) := fun p => by
          have h := (lessC z.id y.id (gw wr p)).mono (fun e w' ⟨h1, h2⟩ => And.intro h1 h2.1)
          rw [HL.out] at h
          exact gr_call h
        clear HLESS HS u1 u2 r1 r2 p1 p2
        go_wp2_with fail
        refine wp_region_gr (by kernel_rfl) (by kernel_rfl) ?_
        repeat (go_big_quiet_step ((go_at_call 44; with_reducible exact HC.out _)))
        refine wpQuiet_nil ?_
        rintro _ ⟨p, rfl⟩
        have GU := Lib.hid (gr_gw wr p)
        have x1 := (GU.out.hasRow hbw).trans U1.out
        have x2 := (GU.out.rowAt hbw).trans U2.out
        have X1 := Lib.hid x1; have X2 := Lib.hid x2
        have HGU := Lib.hid (hG.out.trans (gr_gw wr p))
        clear U1 U2 x1 x2 GU
        generalize gw wr p = U at *
        go_wp2_with fail
        go_loopw [7, 8, 46, 47, 48, 49, 50, 51, 52, 53, 54, 55, 56, 57, 58, 59, 60, 61, 62, 63] (fun fv i _ _ _ _ _ _ _ _ _ _ _ _ _ _ _ _ _ _ wq => ∃ (m q : Nat), m ≤ acc.length ∧ i = .int .i64 m ∧ fv = .bool (anyE acc y m) ∧ wq = U.drewN q) (fun _ i _ _ _ _ _ _ _ _ _ _ _ _ _ _ _ _ _ _ _ => acc.length - (intOf i).toNat)
        case atStart => exact ⟨0, 0, Nat.zero_le _, rfl, by rw [anyE_zero], rfl⟩
        case round =>
          obtain ⟨m, q, hm, rfl, rfl, rfl⟩ := hrel
          by_cases hltm : m < acc.length
          · obtain ⟨b2, o2, rfl, z2, h3, h4⟩ := HJ.out m (by simpa using hltm)
            rw [List.getElem_map] at h4
            have g2 := G1.out.trans HGU.out
            have y1 := (g2.hasRow z2).trans h3
            have y2 := (g2.rowAt z2).trans h4
            have x1 := X1.out; have x2 := X2.out
            have hm1 : (m : Int) < (acc.length : Int) := by omega
            have hm2 : (0 : Int) ≤ (m : Int) := by omega
            have HSU := Lib.hid (anyE_succ acc y m hltm)
            generalize acc[m] = a at *
            clear h3 h4 g2 z2
            cases hf : anyE acc y m with
            | true =>
              have HX : Hid (anyE acc y (m + 1) = true) := by show _ = _; rw [HSU.out, hf]; rfl
              clear hf
              go_wp2_with fail
              go_quiet (fail)
              go_wp2_with fail
              go_roundw
              case rel => exact ⟨m + 1, _, by omega, by go_num, by rw [HX.out], rfl⟩
              case measure => simp [intOf]; omega
            | false =>
              have heql := fun W => eql_canc a y W
              have HX : Hid (anyE acc y (m + 1) = cancEq a y) := by show _ = _; rw [HSU.out, hf]; rfl
              clear hf
              go_wp2_with fail
              go_quiet (fail)
              go_wp2_with fail
              go_roundw
              case rel => exact ⟨m + 1, _, by omega, by go_num, by rw [HX.out], rfl⟩
              case measure => simp [intOf]; omega
          · have hm1 : ¬ (m : Int) < (acc.length : Int) := by omega
            have hff := anyE_all acc y m (by omega) HMEM.out
            have GQ := Lib.hid ((Gr.refl U).drewN q)
            go_wp2_with fail
            go_roundw
            case rel => exact ⟨(j + 1) + 1, by omega, by go_num, HGU.out.trans GQ.out⟩
            case measure => simp [intOf]; omega

    · have hk1 : ¬ (k : Int) < (acc.length : Int) := by omega
      go_wp2_with fail
      go_ret
      exact ⟨rfl, G1.out.trans hG.out⟩
end
end Go.Proofs.YtemhfcfebkjioaaGreatDoor

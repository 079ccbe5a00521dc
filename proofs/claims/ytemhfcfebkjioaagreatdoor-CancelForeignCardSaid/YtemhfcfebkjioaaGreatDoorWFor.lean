/- The law CancelForeign returns true. -/
import Derived.Test.YtemhfcfebkjioaaGreatDoorWMono
import Derived.Test.YtemhfcfebkjioaaGreatDoorByL
namespace Go.Proofs.YtemhfcfebkjioaaGreatDoor
open Go.RowKit

def okM (c : Bool) (ms : List Aut) (a : Aut) (m : Nat) : Bool := c && (ms.take m).all fun z => !(z == a)
def okD (c : Bool) (ds : List (Dfn × List Aut)) (a : Aut) (k : Nat) : Bool := c && (ds.take k).all fun e => e.2.all fun z => !(z == a)
theorem okM_zero (c : Bool) (ms : List Aut) (a : Aut) : okM c ms a 0 = c := by simp [okM]
theorem okM_succ (c : Bool) (ms : List Aut) (a : Aut) (m : Nat) (h : m < ms.length) : okM c ms a (m + 1) = (okM c ms a m && !(ms[m] == a)) := by
  unfold okM; rw [List.take_succ_eq_append_getElem h, List.all_append, ← Bool.and_assoc]; simp
theorem okD_zero (c : Bool) (ds : List (Dfn × List Aut)) (a : Aut) : okD c ds a 0 = c := by simp [okD]
theorem okD_succ (c : Bool) (ds : List (Dfn × List Aut)) (a : Aut) (k : Nat) (h : k < ds.length) (m : Nat) (hm : ds[k].2.length ≤ m) : okD c ds a (k + 1) = okM (okD c ds a k) ds[k].2 a m := by
  unfold okD okM; rw [List.take_succ_eq_append_getElem h, List.all_append, List.take_of_length_le hm, ← Bool.and_assoc]; simp
theorem okD_all (x : Rw) (ds : List (Dfn × List Aut)) (y : Canc) (k : Nat) (hk : ds.length ≤ k) : okD (!(y.author == x.author)) ds y.author k = foreignB x ds y := by
  unfold okD foreignB
  rw [List.take_of_length_le hk]
  congr 1
  rw [Bool.eq_iff_iff, List.all_eq_true, List.all_eq_true]
  refine forall_congr' fun e => imp_congr_right fun _ => ?_
  unfold hasA
  rw [List.all_eq_true, Bool.not_eq_true', List.any_eq_false]
  refine forall_congr' fun z => imp_congr_right fun _ => ?_
  simp
  exact ⟨fun h q => h q.symm, fun h q => h q.symm⟩
def forL (x : Rw) (ds : List (Dfn × List Aut)) (l : List Canc) : List Canc := l.filter (foreignB x ds)
theorem forL_succ (x : Rw) (ds : List (Dfn × List Aut)) (l : List Canc) (k : Nat) (h : k < l.length) : forL x ds (l.take (k + 1)) = if foreignB x ds l[k] = true then forL x ds (l.take k) ++ [l[k]] else forL x ds (l.take k) := by
  unfold forL; rw [List.take_succ_eq_append_getElem h, List.filter_append]
  cases hb : foreignB x ds l[k] <;> simp [hb]
theorem forL_len (x : Rw) (ds : List (Dfn × List Aut)) (l : List Canc) (k : Nat) : (forL x ds (l.take k)).length ≤ k := by
  unfold forL; have := List.length_filter_le (foreignB x ds) (l.take k); have h2 := List.length_take_le k l; omega
theorem forL_none {ents ds : List (Dfn × List Aut)} (h1 : ents.map vis = madeV ds 12) (x : Rw) (gs : List ByteArray) (l : List Canc) : byR x gs ents (forL x ds l) = none ∧ goneIds ents (forL x ds l) [(x, gs)] = [] := by
  have hno : ∀ y ∈ forL x ds l, countsB y x gs ents = false := fun y hy => foreign_not h1 x gs y (List.mem_filter.1 hy).2
  constructor
  · rw [byR_none]; unfold filt; rw [List.filter_eq_nil_iff]; intro y hy; rw [hno y hy]; decide
  · unfold goneIds
    have : goneB ents (forL x ds l) (x, gs) = false := by unfold goneB; rw [List.any_eq_false]; intro y hy; rw [hno y hy]; decide
    simp [this]
set_option maxRecDepth 100000 in
set_option maxHeartbeats 4000000 in
theorem wForeign (hK : KnownOk) (x : Rw) (gs : List ByteArray) (l : List Canc) (v : Value) (ds : List (Dfn × List Aut)) (vd : Value) (w : World) (hE : Env w) (hgs : StrsAt w x.groups gs) (hv : CancsAt w v l) (hll : l.length ≤ 9223372036854775807) (hvd : DefsAt w vd ds) (hds : ds.length ≤ 9223372036854775807) (hml : ∀ e ∈ ds, e.2.length ≤ 9223372036854775807) (hone : oneB (rwC x) = true) :
    Calls Tryz.prog 6 #[.agg (rwC x).toArray, v, vd] w fun e w' => e = .returned (.bool true) ∧ Gr w w' := by
  have hGW := (Gr.refl w).alloc (.cells (rwC x).toArray 31)
  have HK := Lib.hid (hK _ (hE.gr hGW))
  obtain ⟨ga, gc, hgv, hgj⟩ := id hgs
  have HGS := Lib.hid hgs; have HV := Lib.hid hv; have HD := Lib.hid hvd; have HE := Lib.hid hE; have HG := Lib.hid hGW; have HML := Lib.hid hml
  have HBX := Lib.hid (heap_alloc_new w (.cells (rwC x).toArray 31))
  obtain ⟨va, vc, hvv, hvc, hj⟩ := id hv
  rw [List.length_map] at hvv hvc
  subst hvv
  have HJ := Lib.hid hj
  obtain ⟨⟨da, dc, hdd, hdc, hdj⟩, hdm⟩ := id hvd
  rw [List.length_map] at hdd hdc
  subst hdd
  have HDJ := Lib.hid hdj; have HDM := Lib.hid hdm
  obtain ⟨z0, hinfo, hzs⟩ := infoCanc
  obtain ⟨i0, hi, hz0, hz1, hz2⟩ := info_parts hinfo
  have HZ := Lib.hid hzs; have HI := Lib.hid hi
  clear hgs hv hE hGW hgj hvd hj hinfo hzs hi hdj hdm hml
  go_enter Tryz.func6, Tryz.ntmps6
  go_wp2_with fail
  refine HK.out.mono ?_
  rintro e w1 ⟨rfl, hg1⟩
  have bx1 := (hg1.block (Array.getElem?_eq_some_iff.1 HBX.out).1).trans HBX.out
  have r1 := hasRow_block bx1 0 83 (by rw [rwC_length]; decide)
  have r2 := (rowAt_block bx1 0 83 (by rw [rwC_length]; decide)).trans (rw_whole x)
  have BX1 := Lib.hid bx1; have G1 := Lib.hid (HG.out.trans hg1)
  clear bx1 hg1
  go_wp2_with fail
  have hrow : SlAt (w1.alloc (.cells (rwC x).toArray 31)) (.slice (some ⟨w1.heap.size, 0, none⟩) 1 1) 83 ([x].map rwC) := one_row (heap_alloc_new w1 _) (rwC_length x)
  refine (fewC [x] _ va l.length vc _ hrow (by intro z hz; simp at hz; subst hz; exact ⟨_, _, _, hgv⟩) (by simp) hll).mono ?_
  rintro e w2 ⟨rfl, rfl⟩
  have G2 := Lib.hid (G1.out.alloc (.cells (rwC x).toArray 31))
  have BX2 := Lib.hid ((((Gr.refl w1).alloc (.cells (rwC x).toArray 31)).block (Array.getElem?_eq_some_iff.1 BX1.out).1).trans BX1.out)
  clear hrow BX1 r1 r2
  cases hf : fewB [x] l.length with
  | false =>
    go_wp2_with fail
    refine (hK _ (HE.out.gr G2.out)).mono ?_
    rintro e w3 ⟨rfl, hg3⟩
    go_wp2_with fail
    go_ret
    exact ⟨rfl, G2.out.trans hg3⟩
  | true =>
    have hsm : gs.length ≤ 1000000 ∧ l.length ≤ 30 := by
      unfold fewB smallB grpLen at hf
      rw [List.all_cons, hgv] at hf
      simp at hf; omega
    obtain ⟨hl, hl30⟩ := hsm
    clear hf
    go_wp2_with fail
    generalize w1.alloc (.cells (rwC x).toArray 31) = w3 at *
    have hw3 : w.heap.size < w3.heap.size := (Array.getElem?_eq_some_iff.1 BX2.out).1
    go_loopw [7, 8, 9, 10, 11, 26, 27, 28, 29, 30, 31, 32, 33, 34, 35, 36, 37, 38, 39, 40, 41, 42, 43, 44, 45, 46, 47, 48, 49, 50, 51, 52, 53, 54, 55, 56, 57, 58, 59, 60, 61, 62, 63, 64, 65, 66, 67, 68, 69, 70, 71, 72, 73, 74, 75, 76, 77, 78, 79, 80] (fun ov i _ _ _ _ _ _ _ _ _ _ _ _ _ _ _ _ _ _ _ _ _ _ _ _ _ _ _ _ _ _ _ _ _ _ _ _ _ _ _ _ _ _ _ _ _ _ _ _ _ _ _ _ _ _ _ _ _ _ wr => ∃ k : Nat, k ≤ l.length ∧ i = .int .i64 k ∧ Hid (Gr w3 wr) ∧ Hid (wr.ownsRow w3.heap.size 27 81 ov (forL x ds (l.take k)).length ((forL x ds (l.take k)).map cancC).flatten)) (fun _ i _ _ _ _ _ _ _ _ _ _ _ _ _ _ _ _ _ _ _ _ _ _ _ _ _ _ _ _ _ _ _ _ _ _ _ _ _ _ _ _ _ _ _ _ _ _ _ _ _ _ _ _ _ _ _ _ _ _ _ => l.length - (intOf i).toNat)
    case atStart => exact ⟨0, Nat.zero_le _, rfl, Gr.refl _, ⟨rfl, .inl ⟨rfl, rfl⟩⟩⟩
    case round =>
      obtain ⟨k, hk, rfl, hG, hown⟩ := hrel
      by_cases hlt : k < l.length
      · have GW := Lib.hid (G2.out.trans hG.out)
        obtain ⟨b, o, rfl, hb, q1, q2⟩ := HJ.out k (by simpa using hlt)
        have u1 := (GW.out.hasRow hb).trans q1
        have u2 := (GW.out.rowAt hb).trans q2
        rw [List.getElem_map] at u2
        have HFS := Lib.hid (forL_succ x ds l k hlt)
        have hflen := forL_len x ds l k
        have hk1 : (k : Int) < (l.length : Int) := by omega
        have hk2 : (0 : Int) ≤ (k : Int) := by omega
        have hbw : b < wr.heap.size := Nat.lt_of_lt_of_le hb GW.out.size
        have bxr := (hG.out.block hw3).trans BX2.out
        have hxw : w.heap.size < wr.heap.size := (Array.getElem?_eq_some_iff.1 bxr).1
        clear q1 q2
        generalize l[k] = y at *
        have a1 := sub_rowH u1 32 16 (by decide)
        have a2 := (sub_row u1 u2 32 16 (by decide)).trans (canc_author y)
        have x1 := hasRow_block bxr 32 16 (by rw [rwC_length]; decide)
        have x2 := (rowAt_block bxr 32 16 (by rw [rwC_length]; decide)).trans (rw_author x)
        have HAU : Hid (∀ n, hasRow (wr.drewN n) ⟨b, o + k * 81 + 32, none⟩ 16 = true ∧ rowAt (wr.drewN n) ⟨b, o + k * 81 + 32, none⟩ 16 = bC y.author) := fun n => ⟨(hasRow_drewN ..).trans a1, (rowAt_drewN ..).trans a2⟩
        have U12 : Hid (hasRow wr ⟨b, o + k * 81, none⟩ 81 = true ∧ rowAt wr ⟨b, o + k * 81, none⟩ 81 = cancC y) := ⟨u1, u2⟩
        clear u1 u2 bxr
        go_wp2_with fail
        go_quiet (fail)
        go_wp2_with fail
        clear a1 a2 x1 x2
        have HALL := Lib.hid (fun k hk => okD_all x ds y k hk)
        generalize (!(y.author == x.author)) = c0 at *
        generalize wr = wO at *
        obtain ⟨a1, a2⟩ := HAU.out 0
        have a1 : hasRow wO ⟨b, o + k * 81 + 32, none⟩ 16 = true := a1
        have a2 : rowAt wO ⟨b, o + k * 81 + 32, none⟩ 16 = bC y.author := a2
        have A12 : Hid (hasRow wO ⟨b, o + k * 81 + 32, none⟩ 16 = true ∧ rowAt wO ⟨b, o + k * 81 + 32, none⟩ 16 = bC y.author) := ⟨a1, a2⟩
        clear a1 a2
        go_loopw [9, 10, 11, 40, 41, 42, 43, 44, 45, 46, 47, 48, 49, 50, 51, 52, 53, 54, 55, 56, 57, 58, 59, 60, 61, 62, 63, 64, 65, 66, 67, 68, 69, 70, 71, 72] (fun ok kk _ _ _ _ _ _ _ _ _ _ _ _ _ _ _ _ _ _ _ _ _ _ _ _ _ _ _ _ _ _ _ _ _ _ w' => ∃ j q : Nat, j ≤ ds.length ∧ kk = .int .i64 j ∧ ok = .bool (okD c0 ds y.author j) ∧ w' = wO.drewN q) (fun _ kk _ _ _ _ _ _ _ _ _ _ _ _ _ _ _ _ _ _ _ _ _ _ _ _ _ _ _ _ _ _ _ _ _ _ _ => ds.length - (intOf kk).toNat)
        case atStart => exact ⟨0, nq, Nat.zero_le _, rfl, by rw [okD_zero], rfl⟩
        case round =>
          obtain ⟨j, q, hj, rfl, rfl, rfl⟩ := hrel
          by_cases hltj : j < ds.length
          · obtain ⟨b2, o2, rfl, hb2, p1, p2⟩ := HDJ.out j (by simpa using hltj)
            have d1 := (GW.out.hasRow hb2).trans p1
            have d2 := (GW.out.rowAt hb2).trans p2
            rw [List.getElem_map] at d2
            have dcell := cell_of_rowK d1 d2 52 (by decide) (dfn_mods ds[j].1)
            obtain ⟨ma, mc, hmv, hmc, hmj⟩ := HDM.out ds[j] (List.getElem_mem hltj)
            rw [List.length_map] at hmv hmc
            rw [hmv] at dcell
            have hmlj := HML.out ds[j] (List.getElem_mem hltj)
            have HSU := Lib.hid (fun m hm => okD_succ c0 ds y.author j hltj m hm)
            have HMJ := Lib.hid hmj
            have hj1 : (j : Int) < (ds.length : Int) := by omega
            have hj2 : (0 : Int) ≤ (j : Int) := by omega
            have hbw2 : b2 < wO.heap.size := Nat.lt_of_lt_of_le hb2 GW.out.size
            clear p1 p2 hmv hmj d1 d2
            generalize ds[j].2 = ms at *
            generalize okD c0 ds y.author j = c1 at *
            go_wp2_with fail
            go_loopw [9, 11, 46, 47, 48, 49, 50, 51, 52, 53, 54, 55, 56, 57, 58, 59, 60, 61, 62, 63, 64, 65, 66, 67, 68, 69, 70, 71, 72] (fun ok mm _ _ _ _ _ _ _ _ _ _ _ _ _ _ _ _ _ _ _ _ _ _ _ _ _ _ _ w' => ∃ m q2 : Nat, m ≤ ms.length ∧ mm = .int .i64 m ∧ ok = .bool (okM c1 ms y.author m) ∧ w' = wO.drewN q2) (fun _ mm _ _ _ _ _ _ _ _ _ _ _ _ _ _ _ _ _ _ _ _ _ _ _ _ _ _ _ _ => ms.length - (intOf mm).toNat)
            case atStart => exact ⟨0, q, Nat.zero_le _, rfl, by rw [okM_zero], rfl⟩
            case round =>
              obtain ⟨m, q2, hm, rfl, rfl, rfl⟩ := hrel
              by_cases hltm : m < ms.length
              · obtain ⟨b3, o3, rfl, hb3, p3, p4⟩ := HMJ.out m (by simpa using hltm)
                have e1 := (GW.out.hasRow hb3).trans p3
                have e2 := (GW.out.rowAt hb3).trans p4
                rw [List.getElem_map] at e2
                have HSM := Lib.hid (okM_succ c1 ms y.author m hltm)
                have hm1 : (m : Int) < (ms.length : Int) := by omega
                have hm2 : (0 : Int) ≤ (m : Int) := by omega
                have hbw3 : b3 < wO.heap.size := Nat.lt_of_lt_of_le hb3 GW.out.size
                obtain ⟨a1, a2⟩ := A12.out
                clear p3 p4
                generalize ms[m] = z at *
                generalize okM c1 ms y.author m = c2 at *
                cases c2 with
                | false =>
                  go_wp2_with fail
                  go_quiet (fail)
                  go_wp2_with fail
                  go_roundw
                  case rel => exact ⟨m + 1, _, by omega, by go_num, by rw [HSM.out]; rfl, rfl⟩
                  case measure => simp [intOf]; omega
                | true =>
                  go_wp2_with fail
                  go_quiet (fail)
                  go_wp2_with fail
                  go_roundw
                  case rel => exact ⟨m + 1, _, by omega, by go_num, by rw [HSM.out]; simp, rfl⟩
                  case measure => simp [intOf]; omega
              · have hm1 : ¬ (m : Int) < (ms.length : Int) := by omega
                have HS2 := Lib.hid (HSU.out m (by omega))
                go_wp2_with fail
                go_roundw
                case rel => exact ⟨j + 1, _, by omega, by go_num, by rw [HS2.out], rfl⟩
                case measure => simp [intOf]; omega
          · have hj1 : ¬ (j : Int) < (ds.length : Int) := by omega
            rw [HALL.out j (by omega)]
            have GQ := Lib.hid (hG.out.drewN q)
            have OQ := Lib.hid (hown.out.kept ((Gr.refl wO).drewN q).grownBy (by cases u7.ownBlock <;> simp))
            have v1 := (hasRow_drewN wO q ⟨b, o + k * 81, none⟩ 81).trans U12.out.1
            have v2 := (rowAt_drewN wO q ⟨b, o + k * 81, none⟩ 81).trans U12.out.2
            generalize wO.drewN q = V at *
            cases hfb : foreignB x ds y with
            | false =>
              have HB : Hid (forL x ds (l.take (k + 1)) = forL x ds (l.take k)) := by show _ = _; rw [HFS.out, hfb]; rfl
              clear hfb
              go_wp2_with fail
              go_roundw
              case rel => exact ⟨k + 1, by omega, by go_num, GQ.out, by show World.ownsRow _ _ _ _ _ _ _; rw [HB.out]; exact OQ.out⟩
              case measure => simp [intOf]; omega
            | true =>
              have HB : Hid (forL x ds (l.take (k + 1)) = forL x ds (l.take k) ++ [y]) := by show _ = _; rw [HFS.out, hfb]; rfl
              clear hfb
              generalize forL x ds (l.take k) = acc at *
              have hnews : Hid (∀ j u, (cancC y)[j]? = some u → (V.alloc (.cells (cancC y).toArray 27)).cell? ((⟨V.heap.size, 0, none⟩ : Addr).add j) = some u) := by
                intro j u hu
                rw [Addr.add_lit, Nat.zero_add, World.cell?_alloc_new]; simpa using hu
              have hnl : Hid ((cancC y).length = 1 * 81) := by show _ = _; rw [cancC_length]
              have h1c : Hid (∀ u ∈ cancC y, u.oneCell' = true) := fun u hu => List.all_eq_true.1 (canc_one y) u hu
              have O2 := Lib.hid (OQ.out.alloc (.cells (cancC y).toArray 27))
              have hsz3 := GQ.out.size
              go_wp2_with (at_builtin; refine wpList_append_own _ rfl _ _ 40 rfl w3.heap.size 27 i0 z0 81 88 Tryz.underlying40 HI.out hz0 hz1 hz2 HZ.out (by decide) u7 acc.length (acc.map cancC).flatten rfl O2.out ⟨V.heap.size, 0, none⟩ 1 1 (cancC y) rfl hnl.out hnews.out h1c.out (by unfold maxLen; omega) (by omega) (by simp; omega) ?_; intro v' w5 hown5 hgrow5 hnil5)
              go_roundw
              case rel =>
                refine ⟨k + 1, by omega, by go_num, (GQ.out.alloc _).grown hgrow5 (fun k' hk' => (O2.out.lt k' hk').1), ?_⟩
                show World.ownsRow _ _ _ _ _ _ _
                rw [HB.out, List.length_append, List.map_append, List.flatten_append]
                simpa using hown5
              case measure => simp [intOf]; omega
      · have hke : l.take k = l := List.take_of_length_le (by omega)
        rw [hke] at hown
        have hk1 : ¬ (k : Int) < (l.length : Int) := by omega
        have GW := Lib.hid (G2.out.trans hG.out)
        obtain ⟨fa, fc, hfv, _⟩ := owns_slice hown.out
        have hflen : (forL x ds l).length ≤ 30 := by unfold forL; have := List.length_filter_le (foreignB x ds) l; omega
        have hCA : CancsAt wr u7 (forL x ds l) := slAt_of_owns (map_cancC_len (forL x ds l)) (by rw [List.length_map]; exact hown.out)
        have bxr := (hG.out.block hw3).trans BX2.out
        have hxw : w.heap.size < wr.heap.size := (Array.getElem?_eq_some_iff.1 bxr).1
        have HMADE : Hid (∀ V, Gr wr V → Calls Tryz.prog 14 #[.slice da ds.length dc] V fun e w' => ∃ br ents, e = .returned (.pointer (some ⟨br, 0, none⟩)) ∧ RegAt w' (some br) ents ∧ ents.map vis = madeV ds 12 ∧ Gr V w') := fun V hV => (madeC ds _ V (HE.out.gr (GW.out.trans hV)) (HD.out.gr (GW.out.trans hV)) hds).mono fun _ _ ⟨br, ents, h1, h2, h3, h4⟩ => ⟨br, ents, h1, h2, h3, h4⟩
        have HBY : Hid (∀ V br ents, Gr wr V → RegAt V (some br) ents → ents.map vis = madeV ds 12 → Calls Tryz.prog 17 #[.agg (rwC x).toArray, u7, .pointer (some ⟨br, 0, none⟩)] V fun e w'' => e = .returned (.tuple #[.agg (bC zeroId).toArray, .bool false]) ∧ Gr V w'') := fun V br ents hV hreg hvis => by
          have h := byC x gs (forL x ds l) u7 (some br) ents V hreg (HGS.out.gr (GW.out.trans hV)) hl (SlAt.gr hCA hV) (by omega) hone
          rw [(forL_none hvis x gs l).1] at h
          exact h.mono fun _ _ ⟨h1, h2⟩ => ⟨h1, h2⟩
        have HWD : Hid (∀ V br ents bb, Gr wr V → RegAt V (some br) ents → ents.map vis = madeV ds 12 → V.heap[bb]? = some (.cells (rwC x).toArray 31 (0, 0)) → Calls Tryz.prog 20 #[.slice (some ⟨bb, 0, none⟩) 1 1, u7, .pointer (some ⟨br, 0, none⟩)] V fun e w'' => ∃ a c, e = .returned (.tuple #[.slice a 0 c, .int .i64 0]) ∧ Gr V w'') := fun V br ents bb hV hreg hvis hbb => by
          have h := withdrawnC [(x, gs)] (.slice (some ⟨bb, 0, none⟩) 1 1) (forL x ds l) u7 (some br) ents V hreg ⟨one_row hbb (rwC_length x), by intro z hz; simp at hz; subst hz; exact ⟨HGS.out.gr (GW.out.trans hV), hone, hl⟩⟩ (by simp) (SlAt.gr hCA hV) (by omega)
          refine h.mono ?_
          rintro e w'' ⟨a, n, c, s, he, hids, _, hmem, _, hg⟩
          rw [(forL_none hvis x gs l).2] at hmem
          have hs0 : s = [] := List.eq_nil_iff_forall_not_mem.2 fun i hi => by have := (hmem i).1 hi; cases this
          subst hs0
          obtain ⟨a', c', hv', _⟩ := hids
          injection hv' with q1 q2 q3
          rw [q2] at he
          exact ⟨a, c, he, hg⟩
        have HKS : Hid (∀ V, Gr wr V → hasRow V ⟨w.heap.size, 0, none⟩ 83 = true ∧ rowAt V ⟨w.heap.size, 0, none⟩ 83 = rwC x) := fun V hV => ⟨(hV.hasRow hxw).trans (hasRow_block bxr 0 83 (by rw [rwC_length]; decide)), ((hV.rowAt hxw).trans (rowAt_block bxr 0 83 (by rw [rwC_length]; decide))).trans (rw_whole x)⟩
        clear bxr hCA hke
        subst hfv
        go_wp2_with fail
        have hg0 := (Gr.refl wr).drew
        have hg0' := fun o => ((Gr.refl wr).alloc o).drew
        have honez : ∀ v ∈ bC zeroId, v.oneCell' = true := fun v hv => List.all_eq_true.1 (oneB_bC zeroId) v hv
        have hi23 : (Tryz.prog.info? 23).map (·.size) = some (bC zeroId).length := by rw [bC_length]; kernel_rfl
        go_region_held3 (fun u => hasRow u ⟨w.heap.size, 0, none⟩ 83 = true ∧ rowAt u ⟨w.heap.size, 0, none⟩ 83 = rwC x) (first | with_reducible exact HKS.out _ hg0 | with_reducible exact HKS.out _ (hg0' _) | with_reducible exact HKS.out _ hgW4 | with_reducible exact HKS.out _ (hgW4.alloc _) | with_reducible exact HKS.out _ hgW5 | with_reducible exact HKS.out _ (hgW5.alloc _) | with_reducible exact HKS.out _ (Gr.setCells _ (Nat.le_trans hgW4.size hg5s) _ _ _ (hgW5.alloc _)) | with_reducible exact HKS.out _ (Gr.setCells _ (Nat.le_refl _) _ _ _ hgW5) | with_reducible exact HKS.out _ (Gr.setCells _ hgW4.size _ _ _ hgW5)) (first | (go_at_call 14; refine (HMADE.out _ (by first | with_reducible exact hg0 | with_reducible exact hg0' _)).mono ?_; rintro e w4 ⟨br, ents, rfl, hreg, hvis, hg4⟩; have hgW4 : Gr wr w4 := (by first | with_reducible exact hg0.trans hg4 | with_reducible exact (hg0' _).trans hg4); have HVIS := Lib.hid hvis; clear hvis; try (have htA4 := (hg4.block (b := wr.heap.size) (by simp)).trans (heap_alloc_new wr _))) | (go_at_call 17; refine (HBY.out _ br ents (by first | with_reducible exact hgW4 | with_reducible exact hgW4.alloc _) (by first | with_reducible exact hreg | with_reducible exact hreg.gr ((Gr.refl _).alloc _)) HVIS.out).mono ?_; rintro e w5 ⟨rfl, hg5⟩; have hgW5 : Gr wr w5 := (by first | with_reducible exact hgW4.trans hg5 | with_reducible exact (hgW4.alloc _).trans hg5); have hg5s : w4.heap.size ≤ w5.heap.size := (by have := hg5.size; first | exact this | (simp at this; omega)); have htB : (w5.alloc (Obj.cells #[Value.int IntKind.u8 0, Value.int IntKind.u8 0, Value.int IntKind.u8 0, Value.int IntKind.u8 0, Value.int IntKind.u8 0, Value.int IntKind.u8 0, Value.int IntKind.u8 0, Value.int IntKind.u8 0, Value.int IntKind.u8 0, Value.int IntKind.u8 0, Value.int IntKind.u8 0, Value.int IntKind.u8 0, Value.int IntKind.u8 0, Value.int IntKind.u8 0, Value.int IntKind.u8 0, Value.int IntKind.u8 0, Value.int IntKind.u8 0, Value.int IntKind.u8 0, Value.int IntKind.u8 0, Value.int IntKind.u8 0, Value.int IntKind.u8 0, Value.int IntKind.u8 0, Value.int IntKind.u8 0, Value.int IntKind.u8 0, Value.int IntKind.u8 0, Value.int IntKind.u8 0, Value.int IntKind.u8 0, Value.int IntKind.u8 0, Value.int IntKind.u8 0, Value.int IntKind.u8 0, Value.int IntKind.u8 0, Value.int IntKind.u8 0] 23)).there w5.heap.size 0 (bC zeroId).length := there_block (heap_alloc_new w5 _) (by rw [bC_length]; decide); (try (have htA : w5.there wr.heap.size 0 (bC zeroId).length := there_block ((hg5.block (Nat.lt_of_lt_of_le (Array.getElem?_eq_some_iff.1 htA4).1 (Nat.le_refl _))).trans htA4) (by rw [bC_length]; decide))); (try (have htM : w5.there w4.heap.size 0 (bC zeroId).length := there_block ((hg5.block (b := w4.heap.size) (by simp)).trans (heap_alloc_new w4 _)) (by rw [bC_length]; decide)))))
        all_goals first
          | (have _h := htA; have GE := Lib.hid (Gr.setCells (a := wr) wr.heap.size (Nat.le_refl _) (bC zeroId) 0 _ hgW5); generalize World.setCells w5 wr.heap.size 0 (bC zeroId) = WE at *)
          | (have _h := htM; have GE := Lib.hid (Gr.setCells (a := wr) w4.heap.size hgW4.size (bC zeroId) 0 _ hgW5); generalize World.setCells w5 w4.heap.size 0 (bC zeroId) = WE at *)
          | (have GE := Lib.hid (Gr.setCells (a := wr) w5.heap.size hgW5.size (bC zeroId) 0 _ (hgW5.alloc (Obj.cells #[Value.int IntKind.u8 0, Value.int IntKind.u8 0, Value.int IntKind.u8 0, Value.int IntKind.u8 0, Value.int IntKind.u8 0, Value.int IntKind.u8 0, Value.int IntKind.u8 0, Value.int IntKind.u8 0, Value.int IntKind.u8 0, Value.int IntKind.u8 0, Value.int IntKind.u8 0, Value.int IntKind.u8 0, Value.int IntKind.u8 0, Value.int IntKind.u8 0, Value.int IntKind.u8 0, Value.int IntKind.u8 0, Value.int IntKind.u8 0, Value.int IntKind.u8 0, Value.int IntKind.u8 0, Value.int IntKind.u8 0, Value.int IntKind.u8 0, Value.int IntKind.u8 0, Value.int IntKind.u8 0, Value.int IntKind.u8 0, Value.int IntKind.u8 0, Value.int IntKind.u8 0, Value.int IntKind.u8 0, Value.int IntKind.u8 0, Value.int IntKind.u8 0, Value.int IntKind.u8 0, Value.int IntKind.u8 0, Value.int IntKind.u8 0] 23))); generalize World.setCells (w5.alloc (Obj.cells #[Value.int IntKind.u8 0, Value.int IntKind.u8 0, Value.int IntKind.u8 0, Value.int IntKind.u8 0, Value.int IntKind.u8 0, Value.int IntKind.u8 0, Value.int IntKind.u8 0, Value.int IntKind.u8 0, Value.int IntKind.u8 0, Value.int IntKind.u8 0, Value.int IntKind.u8 0, Value.int IntKind.u8 0, Value.int IntKind.u8 0, Value.int IntKind.u8 0, Value.int IntKind.u8 0, Value.int IntKind.u8 0, Value.int IntKind.u8 0, Value.int IntKind.u8 0, Value.int IntKind.u8 0, Value.int IntKind.u8 0, Value.int IntKind.u8 0, Value.int IntKind.u8 0, Value.int IntKind.u8 0, Value.int IntKind.u8 0, Value.int IntKind.u8 0, Value.int IntKind.u8 0, Value.int IntKind.u8 0, Value.int IntKind.u8 0, Value.int IntKind.u8 0, Value.int IntKind.u8 0, Value.int IntKind.u8 0, Value.int IntKind.u8 0] 23)) w5.heap.size 0 (bC zeroId) = WE at *)
        all_goals
          have HKS2 : Hid (∀ V, Gr WE V → hasRow V ⟨w.heap.size, 0, none⟩ 83 = true ∧ rowAt V ⟨w.heap.size, 0, none⟩ 83 = rwC x) := fun V hV => HKS.out V (GE.out.trans hV)
          have HMD2 := Lib.hid (fun V (hV : Gr WE V) => HMADE.out V (GE.out.trans hV))
          have HWD2 := Lib.hid (fun V br ents bb (hV : Gr WE V) => HWD.out V br ents bb (GE.out.trans hV))
          clear hg0 hg0' honez hi23 htB HMADE HBY HWD HKS
          have hh0 := (Gr.refl WE).drew
          have hh0' := fun o => ((Gr.refl WE).alloc o).drew
          go_wp2_with fail
          go_region_held3 (fun u => hasRow u ⟨w.heap.size, 0, none⟩ 83 = true ∧ rowAt u ⟨w.heap.size, 0, none⟩ 83 = rwC x) (first | with_reducible exact HKS2.out _ hh0 | with_reducible exact HKS2.out _ (hh0' _) | with_reducible exact HKS2.out _ hgW7 | with_reducible exact HKS2.out _ (hgW7.alloc _) | with_reducible exact HKS2.out _ hgW8) (first | (go_at_call 14; refine (HMD2.out _ (by first | with_reducible exact hh0 | with_reducible exact hh0' _)).mono ?_; rintro e w7 ⟨br2, ents2, rfl, hreg2, hvis2, hg7⟩; have hgW7 : Gr WE w7 := (by first | with_reducible exact hh0.trans hg7 | with_reducible exact (hh0' _).trans hg7); have HVIS2 := Lib.hid hvis2; clear hvis2; try (have hbb7 := (hg7.block (b := WE.heap.size) (by simp)).trans (heap_alloc_new WE _))) | (go_at_call 20; refine (HWD2.out _ br2 ents2 _ (by first | with_reducible exact hgW7 | with_reducible exact hgW7.alloc _) (by first | with_reducible exact hreg2 | with_reducible exact hreg2.gr ((Gr.refl _).alloc _)) HVIS2.out (by first | exact hbb7 | exact heap_alloc_new w7 _)).mono ?_; rintro e w8 ⟨ya, yc, rfl, hg8⟩; have hgW8 : Gr WE w8 := (by first | with_reducible exact hgW7.trans hg8 | with_reducible exact (hgW7.alloc _).trans hg8)))
          all_goals
            go_wp2_with fail
            go_ret
            exact ⟨rfl, (GW.out.trans GE.out).trans hgW8⟩
end Go.Proofs.YtemhfcfebkjioaaGreatDoor

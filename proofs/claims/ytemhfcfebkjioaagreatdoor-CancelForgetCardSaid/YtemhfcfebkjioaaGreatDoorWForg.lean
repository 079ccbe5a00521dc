/- The law CancelForget returns true. -/
import Derived.Test.YtemhfcfebkjioaaGreatDoorRIn
import Derived.Test.YtemhfcfebkjioaaGreatDoorTForg
import Derived.Test.YtemhfcfebkjioaaGreatDoorIns
namespace Go.Proofs.YtemhfcfebkjioaaGreatDoor
open Go.RowKit

/-- Two slices do not share a block. -/
def SepB (gv lv : Value) : Prop := ∀ q n c, gv = .slice (some q) n c → lv.ownBlock ≠ some q.block
theorem ownNone (v : Value) : v.ownBlock = none ∨ v.ownBlock ≠ none := by
  cases h : v.ownBlock with
  | none => exact .inl rfl
  | some k => exact .inr (by simp)
theorem ids_block {w : World} {gv : Value} {g : List Id} (h : IdsAt w gv g) {q : Addr} {n c : Nat} (e : gv = .slice (some q) n c) (hg : g ≠ []) : q.block < w.heap.size := by
  obtain ⟨a, cap, hv, _, hj⟩ := h
  rw [e] at hv
  injection hv with e1 e2 e3
  obtain ⟨b, k, hab, hb, _⟩ := hj 0 (by rw [List.length_map]; exact List.length_pos_iff.2 hg)
  rw [← e1] at hab
  injection hab with hab
  rw [hab]; exact hb
theorem idsAt_kept {w w' : World} {gv : Value} {g : List Id} {row : Option Nat} (h : IdsAt w gv g) (hg : w.grownBy w' row) (hn : ∀ q n c, gv = .slice (some q) n c → row ≠ some q.block) : IdsAt w' gv g := by
  obtain ⟨a, cap, rfl, hc, hj⟩ := h
  refine ⟨a, cap, rfl, hc, fun j hjl => ?_⟩
  obtain ⟨b, k, hab, hb, p1, p2⟩ := hj j hjl
  have hre := rows_eq (hg.block b hb (fun e => hn ⟨b, k, none⟩ _ _ (by rw [hab]) e.symm)) (k + j * 32) 32
  exact ⟨b, k, hab, Nat.lt_of_lt_of_le hb hg.size, hre.1.trans p1, hre.2.trans p2⟩
theorem slAt_map {w w' : World} {v : Value} {size : Nat} {rows : List (List Value)} {bm : Nat} (h : SlAt w v size rows) (hs : 0 < size) (hm : ∃ es c, w.heap[bm]? = some (.map es c)) (hg : w.grownBy w' (some bm)) : SlAt w' v size rows := by
  obtain ⟨es, cl, hm⟩ := hm
  obtain ⟨a, cap, rfl, hc, hj⟩ := h
  refine ⟨a, cap, rfl, hc, fun j hjl => ?_⟩
  obtain ⟨b, k, hab, hb, p1, p2⟩ := hj j hjl
  have hne : b ≠ bm := fun e => by
    have := hasRow_iff.1 p1 0 hs
    rw [Addr.add_lit, e] at this
    simp [World.cell?, hm] at this
  have hre := rows_eq (hg.block b hb (fun e => hne (Option.some.inj e))) (k + j * size) size
  exact ⟨b, k, hab, Nat.lt_of_lt_of_le hb hg.size, hre.1.trans p1, hre.2.trans p2⟩
theorem box_map {w w' : World} {b bm : Nat} {cs : Array Value} {t : TypeId} {fr : Nat × Nat} (h : w.heap[b]? = some (.cells cs t fr)) (hm : ∃ es c, w.heap[bm]? = some (.map es c)) (hg : w.grownBy w' (some bm)) : w'.heap[b]? = some (.cells cs t fr) := by
  obtain ⟨es, cl, hm⟩ := hm
  exact (hg.block b (Array.getElem?_eq_some_iff.1 h).1 (fun e => by rw [Option.some.inj e, hm] at h; cases h)).trans h
theorem HereAt.gr {w w' : World} {hv : Value} {ids : List Id} (h : HereAt w hv ids) (hg : Gr w w') : HereAt w' hv ids := by
  rcases h with h | ⟨a, n, c, h1, h2⟩
  · exact .inl h
  · exact .inr ⟨a, n, c, h1, h2.gr hg⟩
theorem leftL_succ (now : Int) (here : Id → Bool) (l : List Canc) (k : Nat) (h : k < l.length) : leftL now here (l.take (k + 1)) = leftL now here (l.take k) ++ (if oldB now here l[k] = true then [] else [l[k]]) := by
  unfold leftL
  rw [List.take_succ_eq_append_getElem h, List.filter_append]
  congr 1
  by_cases hb : oldB now here l[k] = true
  · simp [hb]
  · simp [hb]
theorem leftL_len (now : Int) (here : Id → Bool) (l : List Canc) (k : Nat) : (leftL now here (l.take k)).length ≤ k :=
  Nat.le_trans (List.length_filter_le _ _) (by rw [List.length_take]; omega)
set_option maxRecDepth 100000 in
set_option maxHeartbeats 8000000 in
theorem wForg (hK : KnownOk) (l : List Canc) (v : Value) (rows : List (Rw × List ByteArray)) (vr : Value) (ds : List (Dfn × List Aut)) (vd : Value) (now : Int) (here : List Id) (vh : Value) (none : Bool) (w : World) (hE : Env w)
    (hv : CancsAt w v l) (hll : l.length ≤ 9223372036854775807) (hr : RowsIn w vr rows) (hrl : rows.length ≤ 9223372036854775807) (hd : DefsAt w vd ds) (hdl : ds.length ≤ 9223372036854775807) (hh : IdsAt w vh here) (hhl : here.length ≤ 9223372036854775807) :
    Calls Tryz.prog 9 #[v, vr, vd, .int .i64 now, vh, .bool none] w fun e w' => e = .returned (.bool true) ∧ Gr w w' := by
  have HK := Lib.hid hK
  have HR := Lib.hid hr; have HV := Lib.hid hv; have HD := Lib.hid hd; have HE := Lib.hid hE
  obtain ⟨⟨ra, rc, hrv, hrc, hrj⟩, hrg⟩ := id hr
  obtain ⟨va, vc, hvv, hvc, _⟩ := id hv
  obtain ⟨⟨da, dc, hdv, hdc, _⟩, _⟩ := id hd
  obtain ⟨ha, hc, hhv, hhc, _⟩ := id hh
  rw [List.length_map] at hrv hvv hdv hrc hhv hhc
  subst hrv; subst hvv; subst hdv; subst hhv
  have HHI := Lib.hid hh
  have HRJ := Lib.hid hrj
  obtain ⟨hfs1, hfs2⟩ := hr.slots
  have HFEW := Lib.hid (fun W (hg : Gr w W) => fewC (rows.map (·.1)) _ va l.length vc W (hfs1.gr hg) hfs2 (by simpa using hrl) hll)
  obtain ⟨z0, hinfo, hzs⟩ := infoCanc
  obtain ⟨i0, hi, hz0, hz1, hz2⟩ := info_parts hinfo
  have HZ := Lib.hid hzs; have HI0 := Lib.hid hi
  clear hr hv hd hE hfs1 hfs2 hrj hrg hh hzs hi hinfo
  go_enter Tryz.func9, Tryz.ntmps9
  go_wp2_with fail
  refine (HK.out w HE.out).mono ?_
  rintro e w1 ⟨rfl, hg1⟩
  have G1 := Lib.hid hg1
  clear hg1
  go_wp2_with fail
  refine (HFEW.out w1 G1.out).mono ?_
  rintro e w2 ⟨rfl, rfl⟩
  cases hfew : fewB (rows.map (·.1)) l.length with
  | false =>
    go_wp2_with fail
    refine (HK.out _ (HE.out.gr G1.out)).mono ?_
    rintro e w3 ⟨rfl, hg3⟩
    go_wp2_with fail
    go_ret
    exact ⟨rfl, G1.out.trans hg3⟩
  | true =>
    obtain ⟨hRA, hr30, hl30⟩ := rowsIn_few HR.out hfew
    have HRA := Lib.hid hRA
    clear hRA hfew
    by_cases hh30 : here.length ≤ 30
    · have x1 : decide ((30 : Int) < (here.length : Int)) = false := by simp; omega
      by_cases hn1 : -1000000 ≤ now
      · have x2 : decide (now < -1000000) = false := by simp; omega
        by_cases hn2 : now ≤ 200000000
        · have x3 : decide (200000000 < now) = false := by simp; omega
          go_wp2_with fail
          refine (madeC ds _ w1 (HE.out.gr G1.out) (HD.out.gr G1.out) hdl).mono ?_
          rintro e w3 ⟨br, ents, rfl, hreg, _, hg3⟩
          have G3 := Lib.hid (G1.out.trans hg3); have HREG := Lib.hid hreg
          unfold ptrV
          clear hg3 hreg
          go_wp2_with fail
          refine (buildT l _ w3 (HV.out.gr G3.out) (by omega)).mono ?_
          rintro e w4 ⟨bt, bm, ba, bc, rfl, hT, hca, hg4⟩
          have hal : (accL l).length ≤ 30 := by have := accL_len l l.length; rw [List.take_length] at this; omega
          have HT := Lib.hid hT; have HCA := Lib.hid hca; have G4 := Lib.hid (G3.out.trans hg4); have G34 := Lib.hid hg4
          have HAD := Lib.hid (accL_dates l)
          obtain ⟨ba', bc', hov, hac, haj⟩ := id hca
          injection hov with e1 e2 e3
          subst e1; subst e3
          rw [List.length_map] at hac
          have HAJ := Lib.hid haj
          clear hT hca hg4 haj e2 x1 x2 x3
          generalize accL l = acc at *
          cases none with
          | false =>
            go_wp2_with fail
            have B17 : Hid ((w4.alloc (.cells #[(Value.slice ha here.length hc)] 55)).heap[w4.heap.size]? = some (.cells #[(Value.slice ha here.length hc)] 55 (0, 0))) := heap_alloc_new w4 _
            have GA := Lib.hid ((Gr.refl w4).alloc (.cells #[(Value.slice ha here.length hc)] 55))
            have HIS : Hid (IdsAt (w4.alloc (.cells #[(Value.slice ha here.length hc)] 55)) (Value.slice ha here.length hc) here) := HHI.out.gr (G4.out.alloc _)
            have HHE : Hid (HereAt (w4.alloc (.cells #[(Value.slice ha here.length hc)] 55)) (Value.func (.func 22) #[Value.agg #[Value.slice ha here.length hc]] #[]) here) := .inr ⟨_, _, _, rfl, HHI.out.gr (G4.out.alloc _)⟩
            have hil : (here : List Id).length ≤ 30 := by first | exact hh30 | simp
            have z17 : w4.heap.size < (w4.alloc (.cells #[(Value.slice ha here.length hc)] 55)).heap.size := by simp
            generalize (w4.alloc (.cells #[(Value.slice ha here.length hc)] 55)) = W5 at *
            go_loopw [19, 20, 21, 66, 67, 68, 69, 70, 71, 72, 73, 74, 75, 76, 77, 78, 79, 80, 81, 82, 83, 84, 85, 86, 87, 88, 89, 90, 91, 92, 93, 94, 95, 96, 97, 98, 99, 100, 101, 102, 103] (fun lv gv i _ _ _ _ _ _ _ _ _ _ _ _ _ _ _ _ _ _ _ _ _ _ _ _ _ _ _ _ _ _ _ _ _ _ _ _ _ _ wr => ∃ (k : Nat) (g : List Id), k ≤ acc.length ∧ i = .int .i64 k ∧ Hid (wr.ownsRow W5.heap.size 27 81 lv (leftL now (hasE here) (acc.take k)).length ((leftL now (hasE here) (acc.take k)).map cancC).flatten) ∧ Hid (IdsAt wr gv g) ∧ Hid (Inc g) ∧ Hid (∀ i, i ∈ g ↔ i ∈ oldIds now (hasE here) (acc.take k)) ∧ g.length ≤ k ∧ Hid (SepB gv lv) ∧ Hid (g = [] → gv = .slice none 0 0) ∧ Hid (∃ a n c, gv = .slice a n c) ∧ Hid (Gr W5 wr)) (fun _ _ i _ _ _ _ _ _ _ _ _ _ _ _ _ _ _ _ _ _ _ _ _ _ _ _ _ _ _ _ _ _ _ _ _ _ _ _ _ _ _ => acc.length - (intOf i).toNat)
            case atStart => exact ⟨0, [], Nat.zero_le _, rfl, ⟨rfl, .inl ⟨rfl, rfl⟩⟩, slAt_none _ _ _ _, inc_nil, fun i => by simp [oldIds], Nat.zero_le _, fun q n c e => (by cases e), fun _ => rfl, ⟨none, 0, 0, rfl⟩, Gr.refl _⟩
            case round =>
              obtain ⟨k, g, hk, rfl, hown, hids, hinc, hmem, hgl, hsep, hgn, hshape, hG⟩ := hrel
              have hll0 := leftL_len now (hasE here) acc k
              have GW := Lib.hid (GA.out.trans hG.out)
              by_cases hlt : k < acc.length
              · obtain ⟨b, o, rfl, hb, p1, p2⟩ := HAJ.out k (by simpa using hlt)
                have u1 := (GW.out.hasRow hb).trans p1
                have u2 := (GW.out.rowAt hb).trans p2
                rw [List.getElem_map] at u2
                have hbw : b < wr.heap.size := Nat.lt_of_lt_of_le hb GW.out.size
                have hk1 : (k : Int) < (acc.length : Int) := by omega
                have hk2 : (0 : Int) ≤ (k : Int) := by omega
                have HLSU := Lib.hid (leftL_succ now (hasE here) acc k hlt)
                have HOSU := Lib.hid (oldIds_succ now (hasE here) acc k hlt)
                clear p1 p2
                generalize acc[k] = y at *
                have b17 := (hG.out.block z17).trans B17.out
                have c17 := Boxed.cell b17
                have s17 : w4.heap.size < wr.heap.size := Nat.lt_of_lt_of_le z17 hG.out.size
                have c48 := cell_of_rowK u1 u2 48 (by decide) (canc_date y)
                have d1 := sub_rowH u1 49 32 (by decide)
                have d2 := (sub_row u1 u2 49 32 (by decide)).trans (canc_target y)
                have U1 := Lib.hid u1; have U2 := Lib.hid u2
                obtain ⟨ga, gn, gc, rfl⟩ := hshape.out
                clear u1 u2 b17
                by_cases hdate : y.date < now - 20160
                · have hdd : decide (y.date < now - 20160) = true := by simpa using hdate
                  have HC : Hid (∀ p : GD, Calls Tryz.prog 22 #[.agg #[(Value.slice ha here.length hc)], .agg (bC y.target).toArray] (gw wr p) fun e w'' => e = .returned (.bool (hasE here y.target)) ∧ ∃ q : GD, w'' = gw wr q) := fun p => gr_call (hasC here _ _ _ y.target _ (HIS.out.gr (hG.out.trans (gr_gw wr p))) (by omega))
                  have HODB : Hid (oldB now (hasE here) y = !hasE here y.target) := by show _ = _; unfold oldB; rw [hdd]; rfl
                  clear hdate
                  cases hhe : hasE here y.target with
                  | true =>
                    have HO : Hid (oldB now (hasE here) y = false) := by show _ = _; rw [HODB.out, hhe]; rfl
                    rw [hhe] at HC
                    clear hhe HODB
                    go_wp2_with fail
                    refine wp_region_gr (by kernel_rfl) (by kernel_rfl) ?_
                    repeat (go_big_quiet_step ((go_at_call 22; with_reducible exact HC.out _)))
                    refine wpQuiet_nil ?_
                    rintro _ ⟨p, rfl⟩
                    have GU := Lib.hid (gr_gw wr p)
                    have OU := Lib.hid (hown.out.kept GU.out.grownBy (ownNone _))
                    have IU := Lib.hid (hids.out.gr GU.out)
                    have HGU := Lib.hid (hG.out.trans GU.out)
                    have v1 := (GU.out.hasRow hbw).trans U1.out
                    have v2 := (GU.out.rowAt hbw).trans U2.out
                    clear c48 c17 s17 d1 d2
                    generalize gw wr p = U at *
                    have HLS : Hid (leftL now (hasE here) (acc.take (k + 1)) = leftL now (hasE here) (acc.take k) ++ [y]) := by show _ = _; rw [HLSU.out, HO.out]; rfl
                    have HGS : Hid (oldIds now (hasE here) (acc.take (k + 1)) = oldIds now (hasE here) (acc.take k)) := by show _ = _; rw [HOSU.out, HO.out]; simp
                    generalize leftL now (hasE here) (acc.take k) = L at *
                    have O4 := Lib.hid (OU.out.alloc (.cells (cancC y).toArray 27))
                    have hnews : Hid (∀ j u, (cancC y)[j]? = some u → (U.alloc (.cells (cancC y).toArray 27)).cell? ((⟨U.heap.size, 0, none⟩ : Addr).add j) = some u) := by
                      intro j u hu
                      rw [Addr.add_lit, Nat.zero_add, World.cell?_alloc_at _ _ _ _ rfl]; simpa using hu
                    have hnl : Hid ((cancC y).length = 1 * 81) := by show _ = _; rw [cancC_length]
                    have h1c : Hid (∀ u ∈ cancC y, u.oneCell' = true) := fun u hu => List.all_eq_true.1 (canc_one y) u hu
                    have hbs : Hid (W5.heap.size ≤ (U.alloc (.cells (cancC y).toArray 27)).heap.size) := Nat.le_trans HGU.out.size (by simp)
                    go_wp2_with (at_builtin; refine wpList_append_own_at _ rfl _ _ 40 rfl W5.heap.size 27 i0 z0 81 88 Tryz.underlying40 HI0.out hz0 hz1 hz2 HZ.out (by decide) u19 L.length (L.map cancC).flatten rfl O4.out ⟨U.heap.size, 0, none⟩ 1 1 (cancC y) rfl hnl.out hnews.out h1c.out (by unfold maxLen; omega) (by omega) hbs.out ?_; intro v' w6 hown6 hgrow6 hnil6 hat6)
                    go_roundw
                    case rel =>
                      refine ⟨k + 1, g, by omega, by go_num, ?_, ?_, hinc.out, by show ∀ i, _; rw [HGS.out]; exact hmem.out, by omega, ?_, hgn.out, hshape.out, ?_⟩
                      · show World.ownsRow _ _ _ _ _ _ _
                        rw [HLS.out, List.length_append, List.map_append, List.flatten_append]
                        simpa using hown6
                      · exact idsAt_kept (IU.out.gr ((Gr.refl U).alloc _)) hgrow6 (fun q n c e => hsep.out q n c e)
                      · intro q n c e
                        have hq : q.block < U.heap.size := ids_block IU.out e (fun h => by have := hgn.out h; rw [this] at e; cases e)
                        rcases hat6 with h | h
                        · rw [h]; exact hsep.out q n c e
                        · rw [h, World.size_alloc]; intro e'; have := Option.some.inj e'; omega
                      · exact (HGU.out.alloc _).grown hgrow6 (fun k hk => (O4.out.lt k hk).1)
                    case measure => simp [intOf]; omega
                  | false =>
                    have HO : Hid (oldB now (hasE here) y = true) := by show _ = _; rw [HODB.out, hhe]; rfl
                    rw [hhe] at HC
                    clear hhe HODB
                    go_wp2_with fail
                    refine wp_region_gr (by kernel_rfl) (by kernel_rfl) ?_
                    repeat (go_big_quiet_step ((go_at_call 22; with_reducible exact HC.out _)))
                    refine wpQuiet_nil ?_
                    rintro _ ⟨p, rfl⟩
                    have GU := Lib.hid (gr_gw wr p)
                    have OU := Lib.hid (hown.out.kept GU.out.grownBy (ownNone _))
                    have IU := Lib.hid (hids.out.gr GU.out)
                    have HGU := Lib.hid (hG.out.trans GU.out)
                    have v1 := (GU.out.hasRow hbw).trans U1.out
                    have v2 := (GU.out.rowAt hbw).trans U2.out
                    clear c48 c17 s17 d1 d2
                    generalize gw wr p = U at *
                    have HLS : Hid (leftL now (hasE here) (acc.take (k + 1)) = leftL now (hasE here) (acc.take k)) := by show _ = _; rw [HLSU.out, HO.out]; simp
                    have HGS : Hid (oldIds now (hasE here) (acc.take (k + 1)) = oldIds now (hasE here) (acc.take k) ++ [y.id]) := by show _ = _; rw [HOSU.out, HO.out]; rfl
                    have i1 := sub_rowH v1 0 32 (by decide)
                    have i2 := (sub_row v1 v2 0 32 (by decide)).trans (canc_id y)
                    simp only [Nat.add_zero] at i1 i2
                    have HIN := Lib.hid (insertF g (.slice ga gn gc) y.id U IU.out (by omega))
                    clear v1 v2
                    go_wp2_with fail
                    refine HIN.out.mono ?_
                    rintro e w6 ⟨pk, ia, ic, icc, hpl, rfl, hids6, hg6, hfr6⟩
                    have G6 := Lib.hid hg6; have HI6 := Lib.hid hids6; have HPL := Lib.hid hpl; have HF6 := Lib.hid hfr6
                    clear hpl hids6 hg6 HIN hfr6
                    go_wp2_with fail
                    go_roundw
                    case rel =>
                      refine ⟨k + 1, insAt g y.id pk, by omega, by go_num, ?_, HI6.out, insAt_inc hinc.out HPL.out, ?_, ?_, ?_, ?_, ⟨_, _, _, rfl⟩, HGU.out.trans G6.out⟩
                      · show World.ownsRow _ _ _ _ _ _ _
                        rw [HLS.out]
                        exact OU.out.kept G6.out.grownBy (ownNone _)
                      · show ∀ i, _
                        intro i
                        rw [HGS.out, insAt_mem, List.mem_append, hmem.out i]; simp
                      · unfold insAt; split
                        · omega
                        · simp; omega
                      · intro q n c e
                        injection e with e1 e2 e3
                        rcases HF6.out q e1 with h | ⟨n0, c0, h⟩
                        · intro e'; have := (OU.out.lt _ e').2; omega
                        · exact hsep.out q n0 c0 h
                      · intro h
                        have : y.id ∈ insAt g y.id pk := insAt_mem _ |>.2 (.inr rfl)
                        rw [h] at this; cases this
                    case measure => simp [intOf]; omega
                · have hdd : decide (y.date < now - 20160) = false := by simpa using hdate
                  have HO : Hid (oldB now (hasE here) y = false) := by show _ = _; unfold oldB; rw [hdd]; rfl
                  clear hdate
                  go_wp2_with fail
                  refine wp_region_gr (by kernel_rfl) (by kernel_rfl) ?_
                  repeat (go_big_quiet_step (fail))
                  refine wpQuiet_nil ?_
                  rintro _ ⟨p, rfl⟩
                  have GU := Lib.hid (gr_gw wr p)
                  have OU := Lib.hid (hown.out.kept GU.out.grownBy (ownNone _))
                  have IU := Lib.hid (hids.out.gr GU.out)
                  have HGU := Lib.hid (hG.out.trans GU.out)
                  have v1 := (GU.out.hasRow hbw).trans U1.out
                  have v2 := (GU.out.rowAt hbw).trans U2.out
                  clear c48 c17 s17 d1 d2
                  generalize gw wr p = U at *
                  have HLS : Hid (leftL now (hasE here) (acc.take (k + 1)) = leftL now (hasE here) (acc.take k) ++ [y]) := by show _ = _; rw [HLSU.out, HO.out]; rfl
                  have HGS : Hid (oldIds now (hasE here) (acc.take (k + 1)) = oldIds now (hasE here) (acc.take k)) := by show _ = _; rw [HOSU.out, HO.out]; simp
                  generalize leftL now (hasE here) (acc.take k) = L at *
                  have O4 := Lib.hid (OU.out.alloc (.cells (cancC y).toArray 27))
                  have hnews : Hid (∀ j u, (cancC y)[j]? = some u → (U.alloc (.cells (cancC y).toArray 27)).cell? ((⟨U.heap.size, 0, none⟩ : Addr).add j) = some u) := by
                    intro j u hu
                    rw [Addr.add_lit, Nat.zero_add, World.cell?_alloc_at _ _ _ _ rfl]; simpa using hu
                  have hnl : Hid ((cancC y).length = 1 * 81) := by show _ = _; rw [cancC_length]
                  have h1c : Hid (∀ u ∈ cancC y, u.oneCell' = true) := fun u hu => List.all_eq_true.1 (canc_one y) u hu
                  have hbs : Hid (W5.heap.size ≤ (U.alloc (.cells (cancC y).toArray 27)).heap.size) := Nat.le_trans HGU.out.size (by simp)
                  go_wp2_with (at_builtin; refine wpList_append_own_at _ rfl _ _ 40 rfl W5.heap.size 27 i0 z0 81 88 Tryz.underlying40 HI0.out hz0 hz1 hz2 HZ.out (by decide) u19 L.length (L.map cancC).flatten rfl O4.out ⟨U.heap.size, 0, none⟩ 1 1 (cancC y) rfl hnl.out hnews.out h1c.out (by unfold maxLen; omega) (by omega) hbs.out ?_; intro v' w6 hown6 hgrow6 hnil6 hat6)
                  go_roundw
                  case rel =>
                    refine ⟨k + 1, g, by omega, by go_num, ?_, ?_, hinc.out, by show ∀ i, _; rw [HGS.out]; exact hmem.out, by omega, ?_, hgn.out, hshape.out, ?_⟩
                    · show World.ownsRow _ _ _ _ _ _ _
                      rw [HLS.out, List.length_append, List.map_append, List.flatten_append]
                      simpa using hown6
                    · exact idsAt_kept (IU.out.gr ((Gr.refl U).alloc _)) hgrow6 (fun q n c e => hsep.out q n c e)
                    · intro q n c e
                      have hq : q.block < U.heap.size := ids_block IU.out e (fun h => by have := hgn.out h; rw [this] at e; cases e)
                      rcases hat6 with h | h
                      · rw [h]; exact hsep.out q n c e
                      · rw [h, World.size_alloc]; intro e'; have := Option.some.inj e'; omega
                    · exact (HGU.out.alloc _).grown hgrow6 (fun k hk => (O4.out.lt k hk).1)
                  case measure => simp [intOf]; omega
              · have hke : acc.take k = acc := List.take_of_length_le (by omega)
                rw [hke] at hown hmem
                have hk1 : ¬ (k : Int) < (acc.length : Int) := by omega
                have hg30 : g.length ≤ 30 := by omega
                clear hke hll0
                obtain ⟨la, lc, hlv, hln⟩ := owns_slice hown.out
                subst hlv
                obtain ⟨ga, gn, gc, rfl⟩ := hshape.out
                have hLA : CancsAt wr (.slice la (leftL now (hasE here) acc).length lc) (leftL now (hasE here) acc) := slAt_of_owns (map_cancC_len _) (by rw [List.length_map]; exact hown.out)
                have TR := Lib.hid (HT.out.gr GW.out)
                have HLE2 := Lib.hid (fun (x : Rw) (gs : List ByteArray) (h : ¬ (x.date < now - 20160 ∧ hasE here x.id = false)) => byR_left now (hasE here) x gs ents acc h)
                have hl60 : (leftL now (hasE here) acc).length ≤ 30 := Nat.le_trans (List.length_filter_le _ _) hal
                have HFO := Lib.hid (forgetT w3.heap.size bt bm acc now (Value.func (.func 22) #[Value.agg #[Value.slice ha here.length hc]] #[]) here wr TR.out (by omega) HAD.out (HHE.out.gr hG.out) (by omega) hn1 hn2)
                have HEQ : Hid (∀ W g2 va, IdsAt W va g2 → Inc g2 → (∀ i, i ∈ g2 ↔ i ∈ oldIds now (hasE here) acc) → g2.length ≤ 1000 → IdsAt W (.slice ga gn gc) g → Calls Tryz.prog 21 #[va, .slice ga gn gc] W fun e w' => e = .returned (.bool true) ∧ Gr W w') := fun W g2 va h1 h2 h3 h4 h5 => by
                  have he : g2 = g := inc_ext h2 hinc.out fun i => by rw [h3, hmem.out]
                  have := equalC g2 g va _ W h1 h5 (by omega) (by omega)
                  rwa [show decide (g2 = g) = true from by simp [he]] at this
                have HLA := Lib.hid hLA
                have b17 := Lib.hid ((hG.out.block z17).trans B17.out)
                clear hLA hln hown
                generalize hLL : leftL now (hasE here) acc = L at *
                have HLL := Lib.hid hLL
                clear hLL
                generalize wr = V at *
                go_wp2_with fail
                refine HFO.out.mono ?_
                rintro e w7 ⟨fa, fm, fc, g2, rfl, hI7, hinc7, hmem7, hg27, hT7, hgr7⟩
                have HM7 : Hid (∃ es c, V.heap[bm]? = some (.map es c)) := by
                  obtain ⟨_, _, _, D, hD⟩ := TR.out
                  obtain ⟨es, clock, hb, _⟩ := hD.own
                  exact ⟨es, clock, hb⟩
                have HEQ7 := Lib.hid (HEQ.out w7 g2 _ hI7 hinc7 hmem7 hg27 (slAt_map hids.out (by decide) HM7.out hgr7))
                have LA7 := Lib.hid (slAt_map HLA.out (by decide) HM7.out hgr7)
                have CA7 := Lib.hid (slAt_map (SlAt.gr HCA.out GW.out) (by decide) HM7.out hgr7)
                have IS7 := Lib.hid (slAt_map (SlAt.gr HIS.out hG.out) (by decide) HM7.out hgr7)
                have B7 := Lib.hid (box_map b17.out HM7.out hgr7)
                rw [HLL.out] at hT7
                have T7 := Lib.hid hT7
                have G37 := Lib.hid ((G34.out.trans GW.out).grown hgr7 (fun k hk => by cases hk; exact hT7.2.1))
                clear hI7 hinc7 hmem7 hT7 hgr7 HFO
                go_wp2_with fail
                refine HEQ7.out.mono ?_
                rintro e w8 ⟨rfl, hg8⟩
                have HHO := Lib.hid (holdsC _ bt bm L _ w8 (T7.out.gr hg8) (by omega) (SlAt.gr LA7.out hg8))
                have G8 := Lib.hid hg8
                clear hg8 HEQ7
                go_wp2_with fail
                refine HHO.out.mono ?_
                rintro e w9 ⟨rfl, hg9⟩
                have G79 := Lib.hid (G8.out.trans hg9)
                have G39 := Lib.hid (G37.out.trans G79.out)
                clear hg9 HHO G8
                go_wp2_with fail
                go_loopw [22, 23, 24, 25, 26, 27, 117, 118, 119, 120, 121, 122, 123, 124, 125, 126, 127, 128, 129, 130, 131, 132, 133, 134, 135, 136, 137, 138, 139, 140, 141, 142, 143, 144, 145, 146, 147, 148, 149, 150, 151, 152, 153, 154, 155, 156, 157, 158, 159, 160] (fun i _ _ _ _ _ _ _ _ _ _ _ _ _ _ _ _ _ _ _ _ _ _ _ _ _ _ _ _ _ _ _ _ _ _ _ _ _ _ _ _ _ _ _ _ _ _ _ _ _ wr => ∃ (m : Nat), m ≤ rows.length ∧ i = .int .i64 m ∧ Hid (Gr w9 wr)) (fun i _ _ _ _ _ _ _ _ _ _ _ _ _ _ _ _ _ _ _ _ _ _ _ _ _ _ _ _ _ _ _ _ _ _ _ _ _ _ _ _ _ _ _ _ _ _ _ _ _ _ => rows.length - (intOf i).toNat)
                case atStart => exact ⟨0, Nat.zero_le _, rfl, Gr.refl _⟩
                case round =>
                  obtain ⟨m, hm, rfl, hG2⟩ := hrel
                  have G7W := Lib.hid (G79.out.trans hG2.out)
                  have G3W := Lib.hid (G39.out.trans hG2.out)
                  have GWW := Lib.hid (G3.out.trans G3W.out)
                  by_cases hltm : m < rows.length
                  · obtain ⟨b, o, rfl, hb, q1, q2⟩ := HRJ.out m (by simpa using hltm)
                    have u1 := (GWW.out.hasRow hb).trans q1
                    have u2 := (GWW.out.rowAt hb).trans q2
                    rw [List.getElem_map] at u2
                    obtain ⟨hg1, hg2, hg3⟩ := HRA.out.2 rows[m] (List.getElem_mem hltm)
                    have hm1 : (m : Int) < (rows.length : Int) := by omega
                    have hm2 : (0 : Int) ≤ (m : Int) := by omega
                    clear q1 q2
                    generalize rows[m] = rx at *
                    obtain ⟨x, gs⟩ := rx
                    dsimp only at u1 u2 hg1 hg2 hg3
                    have g1 := (Gr.refl wr).alloc (.cells (rwC x).toArray 31)
                    have bx := heap_alloc_new wr (.cells (rwC x).toArray 31)
                    have GA1 := Lib.hid g1
                    have BX := Lib.hid bx
                    have c48 := (cell_block bx 48).trans (rw_date x)
                    have d1 := hasRow_block bx 0 32 (by rw [rwC_length]; decide)
                    have d2 := (rowAt_block bx 0 32 (by rw [rwC_length]; decide)).trans (rw_id x)
                    have c17 := Boxed.cell (((G7W.out.trans g1).block (Array.getElem?_eq_some_iff.1 B7.out).1).trans B7.out)
                    have HSZ : Hid (wr.heap.size < (wr.alloc (.cells (rwC x).toArray 31)).heap.size) := by show _ < _; simp
                    have HHAS := Lib.hid (hasC here _ _ _ x.id _ (SlAt.gr IS7.out (G7W.out.trans g1)) (by omega))
                    have HBE := Lib.hid (HLE2.out x gs)
                    have HONE := Lib.hid hg2
                    -- what is done with an article that is looked at
                    have HWB : Hid (∀ U, Gr wr U → Calls Tryz.prog 25 #[.pointer (some ⟨bt, 0, none⟩), .agg (rwC x).toArray, ptrV (some br)] U (ByPost (byR x gs ents L) U)) := fun U hU => withdrawsC _ bt bm L x gs (some br) ents U (T7.out.gr (G7W.out.trans hU)) (by omega) (HREG.out.gr (G3W.out.trans hU)) (hg1.gr (GWW.out.trans hU)) hg3 hg2
                    have HBB : Hid (∀ U, Gr wr U → Calls Tryz.prog 18 #[.agg (rwC x).toArray, .slice ba acc.length bc, ptrV (some br)] U (ByPost (byR x gs ents acc) U)) := fun U hU => byL x gs acc _ (some br) ents U (HREG.out.gr (G3W.out.trans hU)) (hg1.gr (GWW.out.trans hU)) hg3 (SlAt.gr CA7.out (G7W.out.trans hU)) (by omega) hg2
                    unfold ptrV at HWB HBB
                    clear g1 bx
                    generalize byR x gs ents L = bo at *
                    generalize byR x gs ents acc = bo2 at *
                    by_cases hdate : x.date < now - 20160
                    · have hdd : decide (x.date < now - 20160) = true := by simpa using hdate
                      cases hhe : hasE here x.id with
                      | false =>
                        rw [hhe] at HHAS
                        clear hdate
                        go_wp2_with fail
                        refine HHAS.out.mono ?_
                        rintro e w10 ⟨rfl, hg10⟩
                        have G10 := Lib.hid (GA1.out.trans hg10)
                        clear hg10 HHAS
                        go_wp2_with fail
                        go_roundw
                        case rel => exact ⟨m + 1, by omega, by go_num, hG2.out.trans G10.out⟩
                        case measure => simp [intOf]; omega
                      | true =>
                        have HBO := HBE.out (fun h => by rw [hhe] at h; cases h.2)
                        rw [hhe] at HHAS
                        subst HBO
                        clear hdate
                        go_wp2_with fail
                        refine HHAS.out.mono ?_
                        rintro e w10 ⟨rfl, hg10⟩
                        have G10 := Lib.hid (GA1.out.trans hg10)
                        have BX10 := Lib.hid ((hg10.block HSZ.out).trans BX.out)
                        clear hg10 HHAS c17 c48 d1 d2 u1 u2
                        have t1 := hasRow_block BX10.out 0 83 (by rw [rwC_length]; decide)
                        have t2 := (rowAt_block BX10.out 0 83 (by rw [rwC_length]; decide)).trans (rw_whole x)
                        go_wp2_with fail
                        refine (HWB.out _ G10.out).mono ?_
                        rintro e w11 ⟨rfl, hg11⟩
                        have g11 := hg11.alloc (.cells (bC (byId bo)).toArray 23)
                        have BX11 := Lib.hid ((g11.block (Array.getElem?_eq_some_iff.1 BX10.out).1).trans BX10.out)
                        have A11 := Lib.hid (heap_alloc_new w11 (.cells (bC (byId bo)).toArray 23))
                        have G11 := Lib.hid (G10.out.trans g11)
                        have t3 := hasRow_block BX11.out 0 83 (by rw [rwC_length]; decide)
                        have t4 := (rowAt_block BX11.out 0 83 (by rw [rwC_length]; decide)).trans (rw_whole x)
                        clear t1 t2 hg11 g11
                        go_wp2_with fail
                        refine (HBB.out _ G11.out).mono ?_
                        rintro e w12 ⟨rfl, hg12⟩
                        have a1 := (hg12.block (b := w11.heap.size) (by simp)).trans A11.out
                        have a2 := ((Gr.refl w12).alloc (.cells (bC (byId bo)).toArray 23)).block (Array.getElem?_eq_some_iff.1 a1).1
                        have a3 := a2.trans a1
                        have r1 := hasRow_block a3 0 32 (by rw [bC_length]; decide)
                        have r2 := rowAt_block a3 0 32 (by rw [bC_length]; decide)
                        rw [show rowOf (bC (byId bo)) 0 32 = bC (byId bo) from by unfold rowOf; rw [List.drop_zero, List.take_of_length_le (by rw [bC_length]; decide)]] at r2
                        have G12 := Lib.hid (hg12.alloc (.cells (bC (byId bo)).toArray 23))
                        clear a1 a2 a3 hg12 t3 t4
                        go_wp2_with fail
                        go_roundw
                        case rel => exact ⟨m + 1, by omega, by go_num, hG2.out.trans (G11.out.trans G12.out)⟩
                        case measure => simp [intOf]; omega
                    · have hdd : decide (x.date < now - 20160) = false := by simpa using hdate
                      have HBO := HBE.out (fun h => hdate h.1)
                      subst HBO
                      clear hdate
                      have G10 := GA1
                      have BX10 := BX
                      clear c17 d1 d2 HHAS
                      have t1 := hasRow_block BX10.out 0 83 (by rw [rwC_length]; decide)
                      have t2 := (rowAt_block BX10.out 0 83 (by rw [rwC_length]; decide)).trans (rw_whole x)
                      go_wp2_with fail
                      refine (HWB.out _ G10.out).mono ?_
                      rintro e w11 ⟨rfl, hg11⟩
                      have g11 := hg11.alloc (.cells (bC (byId bo)).toArray 23)
                      have BX11 := Lib.hid ((g11.block (Array.getElem?_eq_some_iff.1 BX10.out).1).trans BX10.out)
                      have A11 := Lib.hid (heap_alloc_new w11 (.cells (bC (byId bo)).toArray 23))
                      have G11 := Lib.hid (G10.out.trans g11)
                      have t3 := hasRow_block BX11.out 0 83 (by rw [rwC_length]; decide)
                      have t4 := (rowAt_block BX11.out 0 83 (by rw [rwC_length]; decide)).trans (rw_whole x)
                      clear t1 t2 hg11 g11
                      go_wp2_with fail
                      refine (HBB.out _ G11.out).mono ?_
                      rintro e w12 ⟨rfl, hg12⟩
                      have a1 := (hg12.block (b := w11.heap.size) (by simp)).trans A11.out
                      have a2 := ((Gr.refl w12).alloc (.cells (bC (byId bo)).toArray 23)).block (Array.getElem?_eq_some_iff.1 a1).1
                      have a3 := a2.trans a1
                      have r1 := hasRow_block a3 0 32 (by rw [bC_length]; decide)
                      have r2 := rowAt_block a3 0 32 (by rw [bC_length]; decide)
                      rw [show rowOf (bC (byId bo)) 0 32 = bC (byId bo) from by unfold rowOf; rw [List.drop_zero, List.take_of_length_le (by rw [bC_length]; decide)]] at r2
                      have G12 := Lib.hid (hg12.alloc (.cells (bC (byId bo)).toArray 23))
                      clear a1 a2 a3 hg12 t3 t4
                      go_wp2_with fail
                      go_roundw
                      case rel => exact ⟨m + 1, by omega, by go_num, hG2.out.trans (G11.out.trans G12.out)⟩
                      case measure => simp [intOf]; omega
                  · have hm1 : ¬ (m : Int) < (rows.length : Int) := by omega
                    go_wp2_with fail
                    go_ret
                    exact ⟨rfl, GWW.out⟩

          | true =>
            go_wp2_with fail
            have B17 : Hid ((w4.alloc (.cells #[(Value.slice .none 0 0)] 55)).heap[w4.heap.size]? = some (.cells #[(Value.slice .none 0 0)] 55 (0, 0))) := heap_alloc_new w4 _
            have GA := Lib.hid ((Gr.refl w4).alloc (.cells #[(Value.slice .none 0 0)] 55))
            have HIS : Hid (IdsAt (w4.alloc (.cells #[(Value.slice .none 0 0)] 55)) (Value.slice .none 0 0) []) := slAt_none _ _ _ _
            have HHE : Hid (HereAt (w4.alloc (.cells #[(Value.slice .none 0 0)] 55)) Value.nilFunc []) := .inl ⟨rfl, rfl⟩
            have hil : ([] : List Id).length ≤ 30 := by first | exact hh30 | simp
            have z17 : w4.heap.size < (w4.alloc (.cells #[(Value.slice .none 0 0)] 55)).heap.size := by simp
            generalize (w4.alloc (.cells #[(Value.slice .none 0 0)] 55)) = W5 at *
            go_loopw [19, 20, 21, 66, 67, 68, 69, 70, 71, 72, 73, 74, 75, 76, 77, 78, 79, 80, 81, 82, 83, 84, 85, 86, 87, 88, 89, 90, 91, 92, 93, 94, 95, 96, 97, 98, 99, 100, 101, 102, 103] (fun lv gv i _ _ _ _ _ _ _ _ _ _ _ _ _ _ _ _ _ _ _ _ _ _ _ _ _ _ _ _ _ _ _ _ _ _ _ _ _ _ wr => ∃ (k : Nat) (g : List Id), k ≤ acc.length ∧ i = .int .i64 k ∧ Hid (wr.ownsRow W5.heap.size 27 81 lv (leftL now (hasE []) (acc.take k)).length ((leftL now (hasE []) (acc.take k)).map cancC).flatten) ∧ Hid (IdsAt wr gv g) ∧ Hid (Inc g) ∧ Hid (∀ i, i ∈ g ↔ i ∈ oldIds now (hasE []) (acc.take k)) ∧ g.length ≤ k ∧ Hid (SepB gv lv) ∧ Hid (g = [] → gv = .slice none 0 0) ∧ Hid (∃ a n c, gv = .slice a n c) ∧ Hid (Gr W5 wr)) (fun _ _ i _ _ _ _ _ _ _ _ _ _ _ _ _ _ _ _ _ _ _ _ _ _ _ _ _ _ _ _ _ _ _ _ _ _ _ _ _ _ _ => acc.length - (intOf i).toNat)
            case atStart => exact ⟨0, [], Nat.zero_le _, rfl, ⟨rfl, .inl ⟨rfl, rfl⟩⟩, slAt_none _ _ _ _, inc_nil, fun i => by simp [oldIds], Nat.zero_le _, fun q n c e => (by cases e), fun _ => rfl, ⟨none, 0, 0, rfl⟩, Gr.refl _⟩
            case round =>
              obtain ⟨k, g, hk, rfl, hown, hids, hinc, hmem, hgl, hsep, hgn, hshape, hG⟩ := hrel
              have hll0 := leftL_len now (hasE []) acc k
              have GW := Lib.hid (GA.out.trans hG.out)
              by_cases hlt : k < acc.length
              · obtain ⟨b, o, rfl, hb, p1, p2⟩ := HAJ.out k (by simpa using hlt)
                have u1 := (GW.out.hasRow hb).trans p1
                have u2 := (GW.out.rowAt hb).trans p2
                rw [List.getElem_map] at u2
                have hbw : b < wr.heap.size := Nat.lt_of_lt_of_le hb GW.out.size
                have hk1 : (k : Int) < (acc.length : Int) := by omega
                have hk2 : (0 : Int) ≤ (k : Int) := by omega
                have HLSU := Lib.hid (leftL_succ now (hasE []) acc k hlt)
                have HOSU := Lib.hid (oldIds_succ now (hasE []) acc k hlt)
                clear p1 p2
                generalize acc[k] = y at *
                have b17 := (hG.out.block z17).trans B17.out
                have c17 := Boxed.cell b17
                have s17 : w4.heap.size < wr.heap.size := Nat.lt_of_lt_of_le z17 hG.out.size
                have c48 := cell_of_rowK u1 u2 48 (by decide) (canc_date y)
                have d1 := sub_rowH u1 49 32 (by decide)
                have d2 := (sub_row u1 u2 49 32 (by decide)).trans (canc_target y)
                have U1 := Lib.hid u1; have U2 := Lib.hid u2
                obtain ⟨ga, gn, gc, rfl⟩ := hshape.out
                clear u1 u2 b17
                by_cases hdate : y.date < now - 20160
                · have hdd : decide (y.date < now - 20160) = true := by simpa using hdate
                  have HC : Hid (∀ p : GD, Calls Tryz.prog 22 #[.agg #[(Value.slice .none 0 0)], .agg (bC y.target).toArray] (gw wr p) fun e w'' => e = .returned (.bool (hasE [] y.target)) ∧ ∃ q : GD, w'' = gw wr q) := fun p => gr_call (hasC [] _ _ _ y.target _ (HIS.out.gr (hG.out.trans (gr_gw wr p))) (by omega))
                  have HODB : Hid (oldB now (hasE []) y = !hasE [] y.target) := by show _ = _; unfold oldB; rw [hdd]; rfl
                  clear hdate
                  cases hhe : hasE [] y.target with
                  | true =>
                    have HO : Hid (oldB now (hasE []) y = false) := by show _ = _; rw [HODB.out, hhe]; rfl
                    rw [hhe] at HC
                    clear hhe HODB
                    go_wp2_with fail
                    refine wp_region_gr (by kernel_rfl) (by kernel_rfl) ?_
                    repeat (go_big_quiet_step ((go_at_call 22; with_reducible exact HC.out _)))
                    refine wpQuiet_nil ?_
                    rintro _ ⟨p, rfl⟩
                    have GU := Lib.hid (gr_gw wr p)
                    have OU := Lib.hid (hown.out.kept GU.out.grownBy (ownNone _))
                    have IU := Lib.hid (hids.out.gr GU.out)
                    have HGU := Lib.hid (hG.out.trans GU.out)
                    have v1 := (GU.out.hasRow hbw).trans U1.out
                    have v2 := (GU.out.rowAt hbw).trans U2.out
                    clear c48 c17 s17 d1 d2
                    generalize gw wr p = U at *
                    have HLS : Hid (leftL now (hasE []) (acc.take (k + 1)) = leftL now (hasE []) (acc.take k) ++ [y]) := by show _ = _; rw [HLSU.out, HO.out]; rfl
                    have HGS : Hid (oldIds now (hasE []) (acc.take (k + 1)) = oldIds now (hasE []) (acc.take k)) := by show _ = _; rw [HOSU.out, HO.out]; simp
                    generalize leftL now (hasE []) (acc.take k) = L at *
                    have O4 := Lib.hid (OU.out.alloc (.cells (cancC y).toArray 27))
                    have hnews : Hid (∀ j u, (cancC y)[j]? = some u → (U.alloc (.cells (cancC y).toArray 27)).cell? ((⟨U.heap.size, 0, none⟩ : Addr).add j) = some u) := by
                      intro j u hu
                      rw [Addr.add_lit, Nat.zero_add, World.cell?_alloc_at _ _ _ _ rfl]; simpa using hu
                    have hnl : Hid ((cancC y).length = 1 * 81) := by show _ = _; rw [cancC_length]
                    have h1c : Hid (∀ u ∈ cancC y, u.oneCell' = true) := fun u hu => List.all_eq_true.1 (canc_one y) u hu
                    have hbs : Hid (W5.heap.size ≤ (U.alloc (.cells (cancC y).toArray 27)).heap.size) := Nat.le_trans HGU.out.size (by simp)
                    go_wp2_with (at_builtin; refine wpList_append_own_at _ rfl _ _ 40 rfl W5.heap.size 27 i0 z0 81 88 Tryz.underlying40 HI0.out hz0 hz1 hz2 HZ.out (by decide) u19 L.length (L.map cancC).flatten rfl O4.out ⟨U.heap.size, 0, none⟩ 1 1 (cancC y) rfl hnl.out hnews.out h1c.out (by unfold maxLen; omega) (by omega) hbs.out ?_; intro v' w6 hown6 hgrow6 hnil6 hat6)
                    go_roundw
                    case rel =>
                      refine ⟨k + 1, g, by omega, by go_num, ?_, ?_, hinc.out, by show ∀ i, _; rw [HGS.out]; exact hmem.out, by omega, ?_, hgn.out, hshape.out, ?_⟩
                      · show World.ownsRow _ _ _ _ _ _ _
                        rw [HLS.out, List.length_append, List.map_append, List.flatten_append]
                        simpa using hown6
                      · exact idsAt_kept (IU.out.gr ((Gr.refl U).alloc _)) hgrow6 (fun q n c e => hsep.out q n c e)
                      · intro q n c e
                        have hq : q.block < U.heap.size := ids_block IU.out e (fun h => by have := hgn.out h; rw [this] at e; cases e)
                        rcases hat6 with h | h
                        · rw [h]; exact hsep.out q n c e
                        · rw [h, World.size_alloc]; intro e'; have := Option.some.inj e'; omega
                      · exact (HGU.out.alloc _).grown hgrow6 (fun k hk => (O4.out.lt k hk).1)
                    case measure => simp [intOf]; omega
                  | false =>
                    have HO : Hid (oldB now (hasE []) y = true) := by show _ = _; rw [HODB.out, hhe]; rfl
                    rw [hhe] at HC
                    clear hhe HODB
                    go_wp2_with fail
                    refine wp_region_gr (by kernel_rfl) (by kernel_rfl) ?_
                    repeat (go_big_quiet_step ((go_at_call 22; with_reducible exact HC.out _)))
                    refine wpQuiet_nil ?_
                    rintro _ ⟨p, rfl⟩
                    have GU := Lib.hid (gr_gw wr p)
                    have OU := Lib.hid (hown.out.kept GU.out.grownBy (ownNone _))
                    have IU := Lib.hid (hids.out.gr GU.out)
                    have HGU := Lib.hid (hG.out.trans GU.out)
                    have v1 := (GU.out.hasRow hbw).trans U1.out
                    have v2 := (GU.out.rowAt hbw).trans U2.out
                    clear c48 c17 s17 d1 d2
                    generalize gw wr p = U at *
                    have HLS : Hid (leftL now (hasE []) (acc.take (k + 1)) = leftL now (hasE []) (acc.take k)) := by show _ = _; rw [HLSU.out, HO.out]; simp
                    have HGS : Hid (oldIds now (hasE []) (acc.take (k + 1)) = oldIds now (hasE []) (acc.take k) ++ [y.id]) := by show _ = _; rw [HOSU.out, HO.out]; rfl
                    have i1 := sub_rowH v1 0 32 (by decide)
                    have i2 := (sub_row v1 v2 0 32 (by decide)).trans (canc_id y)
                    simp only [Nat.add_zero] at i1 i2
                    have HIN := Lib.hid (insertF g (.slice ga gn gc) y.id U IU.out (by omega))
                    clear v1 v2
                    go_wp2_with fail
                    refine HIN.out.mono ?_
                    rintro e w6 ⟨pk, ia, ic, icc, hpl, rfl, hids6, hg6, hfr6⟩
                    have G6 := Lib.hid hg6; have HI6 := Lib.hid hids6; have HPL := Lib.hid hpl; have HF6 := Lib.hid hfr6
                    clear hpl hids6 hg6 HIN hfr6
                    go_wp2_with fail
                    go_roundw
                    case rel =>
                      refine ⟨k + 1, insAt g y.id pk, by omega, by go_num, ?_, HI6.out, insAt_inc hinc.out HPL.out, ?_, ?_, ?_, ?_, ⟨_, _, _, rfl⟩, HGU.out.trans G6.out⟩
                      · show World.ownsRow _ _ _ _ _ _ _
                        rw [HLS.out]
                        exact OU.out.kept G6.out.grownBy (ownNone _)
                      · show ∀ i, _
                        intro i
                        rw [HGS.out, insAt_mem, List.mem_append, hmem.out i]; simp
                      · unfold insAt; split
                        · omega
                        · simp; omega
                      · intro q n c e
                        injection e with e1 e2 e3
                        rcases HF6.out q e1 with h | ⟨n0, c0, h⟩
                        · intro e'; have := (OU.out.lt _ e').2; omega
                        · exact hsep.out q n0 c0 h
                      · intro h
                        have : y.id ∈ insAt g y.id pk := insAt_mem _ |>.2 (.inr rfl)
                        rw [h] at this; cases this
                    case measure => simp [intOf]; omega
                · have hdd : decide (y.date < now - 20160) = false := by simpa using hdate
                  have HO : Hid (oldB now (hasE []) y = false) := by show _ = _; unfold oldB; rw [hdd]; rfl
                  clear hdate
                  go_wp2_with fail
                  refine wp_region_gr (by kernel_rfl) (by kernel_rfl) ?_
                  repeat (go_big_quiet_step (fail))
                  refine wpQuiet_nil ?_
                  rintro _ ⟨p, rfl⟩
                  have GU := Lib.hid (gr_gw wr p)
                  have OU := Lib.hid (hown.out.kept GU.out.grownBy (ownNone _))
                  have IU := Lib.hid (hids.out.gr GU.out)
                  have HGU := Lib.hid (hG.out.trans GU.out)
                  have v1 := (GU.out.hasRow hbw).trans U1.out
                  have v2 := (GU.out.rowAt hbw).trans U2.out
                  clear c48 c17 s17 d1 d2
                  generalize gw wr p = U at *
                  have HLS : Hid (leftL now (hasE []) (acc.take (k + 1)) = leftL now (hasE []) (acc.take k) ++ [y]) := by show _ = _; rw [HLSU.out, HO.out]; rfl
                  have HGS : Hid (oldIds now (hasE []) (acc.take (k + 1)) = oldIds now (hasE []) (acc.take k)) := by show _ = _; rw [HOSU.out, HO.out]; simp
                  generalize leftL now (hasE []) (acc.take k) = L at *
                  have O4 := Lib.hid (OU.out.alloc (.cells (cancC y).toArray 27))
                  have hnews : Hid (∀ j u, (cancC y)[j]? = some u → (U.alloc (.cells (cancC y).toArray 27)).cell? ((⟨U.heap.size, 0, none⟩ : Addr).add j) = some u) := by
                    intro j u hu
                    rw [Addr.add_lit, Nat.zero_add, World.cell?_alloc_at _ _ _ _ rfl]; simpa using hu
                  have hnl : Hid ((cancC y).length = 1 * 81) := by show _ = _; rw [cancC_length]
                  have h1c : Hid (∀ u ∈ cancC y, u.oneCell' = true) := fun u hu => List.all_eq_true.1 (canc_one y) u hu
                  have hbs : Hid (W5.heap.size ≤ (U.alloc (.cells (cancC y).toArray 27)).heap.size) := Nat.le_trans HGU.out.size (by simp)
                  go_wp2_with (at_builtin; refine wpList_append_own_at _ rfl _ _ 40 rfl W5.heap.size 27 i0 z0 81 88 Tryz.underlying40 HI0.out hz0 hz1 hz2 HZ.out (by decide) u19 L.length (L.map cancC).flatten rfl O4.out ⟨U.heap.size, 0, none⟩ 1 1 (cancC y) rfl hnl.out hnews.out h1c.out (by unfold maxLen; omega) (by omega) hbs.out ?_; intro v' w6 hown6 hgrow6 hnil6 hat6)
                  go_roundw
                  case rel =>
                    refine ⟨k + 1, g, by omega, by go_num, ?_, ?_, hinc.out, by show ∀ i, _; rw [HGS.out]; exact hmem.out, by omega, ?_, hgn.out, hshape.out, ?_⟩
                    · show World.ownsRow _ _ _ _ _ _ _
                      rw [HLS.out, List.length_append, List.map_append, List.flatten_append]
                      simpa using hown6
                    · exact idsAt_kept (IU.out.gr ((Gr.refl U).alloc _)) hgrow6 (fun q n c e => hsep.out q n c e)
                    · intro q n c e
                      have hq : q.block < U.heap.size := ids_block IU.out e (fun h => by have := hgn.out h; rw [this] at e; cases e)
                      rcases hat6 with h | h
                      · rw [h]; exact hsep.out q n c e
                      · rw [h, World.size_alloc]; intro e'; have := Option.some.inj e'; omega
                    · exact (HGU.out.alloc _).grown hgrow6 (fun k hk => (O4.out.lt k hk).1)
                  case measure => simp [intOf]; omega
              · have hke : acc.take k = acc := List.take_of_length_le (by omega)
                rw [hke] at hown hmem
                have hk1 : ¬ (k : Int) < (acc.length : Int) := by omega
                have hg30 : g.length ≤ 30 := by omega
                clear hke hll0
                obtain ⟨la, lc, hlv, hln⟩ := owns_slice hown.out
                subst hlv
                obtain ⟨ga, gn, gc, rfl⟩ := hshape.out
                have hLA : CancsAt wr (.slice la (leftL now (hasE []) acc).length lc) (leftL now (hasE []) acc) := slAt_of_owns (map_cancC_len _) (by rw [List.length_map]; exact hown.out)
                have TR := Lib.hid (HT.out.gr GW.out)
                have HLE2 := Lib.hid (fun (x : Rw) (gs : List ByteArray) (h : ¬ (x.date < now - 20160 ∧ hasE [] x.id = false)) => byR_left now (hasE []) x gs ents acc h)
                have hl60 : (leftL now (hasE []) acc).length ≤ 30 := Nat.le_trans (List.length_filter_le _ _) hal
                have HFO := Lib.hid (forgetT w3.heap.size bt bm acc now Value.nilFunc [] wr TR.out (by omega) HAD.out (HHE.out.gr hG.out) (by omega) hn1 hn2)
                have HEQ : Hid (∀ W g2 va, IdsAt W va g2 → Inc g2 → (∀ i, i ∈ g2 ↔ i ∈ oldIds now (hasE []) acc) → g2.length ≤ 1000 → IdsAt W (.slice ga gn gc) g → Calls Tryz.prog 21 #[va, .slice ga gn gc] W fun e w' => e = .returned (.bool true) ∧ Gr W w') := fun W g2 va h1 h2 h3 h4 h5 => by
                  have he : g2 = g := inc_ext h2 hinc.out fun i => by rw [h3, hmem.out]
                  have := equalC g2 g va _ W h1 h5 (by omega) (by omega)
                  rwa [show decide (g2 = g) = true from by simp [he]] at this
                have HLA := Lib.hid hLA
                have b17 := Lib.hid ((hG.out.block z17).trans B17.out)
                clear hLA hln hown
                generalize hLL : leftL now (hasE []) acc = L at *
                have HLL := Lib.hid hLL
                clear hLL
                generalize wr = V at *
                go_wp2_with fail
                refine HFO.out.mono ?_
                rintro e w7 ⟨fa, fm, fc, g2, rfl, hI7, hinc7, hmem7, hg27, hT7, hgr7⟩
                have HM7 : Hid (∃ es c, V.heap[bm]? = some (.map es c)) := by
                  obtain ⟨_, _, _, D, hD⟩ := TR.out
                  obtain ⟨es, clock, hb, _⟩ := hD.own
                  exact ⟨es, clock, hb⟩
                have HEQ7 := Lib.hid (HEQ.out w7 g2 _ hI7 hinc7 hmem7 hg27 (slAt_map hids.out (by decide) HM7.out hgr7))
                have LA7 := Lib.hid (slAt_map HLA.out (by decide) HM7.out hgr7)
                have CA7 := Lib.hid (slAt_map (SlAt.gr HCA.out GW.out) (by decide) HM7.out hgr7)
                have IS7 := Lib.hid (slAt_map (SlAt.gr HIS.out hG.out) (by decide) HM7.out hgr7)
                have B7 := Lib.hid (box_map b17.out HM7.out hgr7)
                rw [HLL.out] at hT7
                have T7 := Lib.hid hT7
                have G37 := Lib.hid ((G34.out.trans GW.out).grown hgr7 (fun k hk => by cases hk; exact hT7.2.1))
                clear hI7 hinc7 hmem7 hT7 hgr7 HFO
                go_wp2_with fail
                refine HEQ7.out.mono ?_
                rintro e w8 ⟨rfl, hg8⟩
                have HHO := Lib.hid (holdsC _ bt bm L _ w8 (T7.out.gr hg8) (by omega) (SlAt.gr LA7.out hg8))
                have G8 := Lib.hid hg8
                clear hg8 HEQ7
                go_wp2_with fail
                refine HHO.out.mono ?_
                rintro e w9 ⟨rfl, hg9⟩
                have G79 := Lib.hid (G8.out.trans hg9)
                have G39 := Lib.hid (G37.out.trans G79.out)
                clear hg9 HHO G8
                go_wp2_with fail
                go_loopw [22, 23, 24, 25, 26, 27, 117, 118, 119, 120, 121, 122, 123, 124, 125, 126, 127, 128, 129, 130, 131, 132, 133, 134, 135, 136, 137, 138, 139, 140, 141, 142, 143, 144, 145, 146, 147, 148, 149, 150, 151, 152, 153, 154, 155, 156, 157, 158, 159, 160] (fun i _ _ _ _ _ _ _ _ _ _ _ _ _ _ _ _ _ _ _ _ _ _ _ _ _ _ _ _ _ _ _ _ _ _ _ _ _ _ _ _ _ _ _ _ _ _ _ _ _ wr => ∃ (m : Nat), m ≤ rows.length ∧ i = .int .i64 m ∧ Hid (Gr w9 wr)) (fun i _ _ _ _ _ _ _ _ _ _ _ _ _ _ _ _ _ _ _ _ _ _ _ _ _ _ _ _ _ _ _ _ _ _ _ _ _ _ _ _ _ _ _ _ _ _ _ _ _ _ => rows.length - (intOf i).toNat)
                case atStart => exact ⟨0, Nat.zero_le _, rfl, Gr.refl _⟩
                case round =>
                  obtain ⟨m, hm, rfl, hG2⟩ := hrel
                  have G7W := Lib.hid (G79.out.trans hG2.out)
                  have G3W := Lib.hid (G39.out.trans hG2.out)
                  have GWW := Lib.hid (G3.out.trans G3W.out)
                  by_cases hltm : m < rows.length
                  · obtain ⟨b, o, rfl, hb, q1, q2⟩ := HRJ.out m (by simpa using hltm)
                    have u1 := (GWW.out.hasRow hb).trans q1
                    have u2 := (GWW.out.rowAt hb).trans q2
                    rw [List.getElem_map] at u2
                    obtain ⟨hg1, hg2, hg3⟩ := HRA.out.2 rows[m] (List.getElem_mem hltm)
                    have hm1 : (m : Int) < (rows.length : Int) := by omega
                    have hm2 : (0 : Int) ≤ (m : Int) := by omega
                    clear q1 q2
                    generalize rows[m] = rx at *
                    obtain ⟨x, gs⟩ := rx
                    dsimp only at u1 u2 hg1 hg2 hg3
                    have g1 := (Gr.refl wr).alloc (.cells (rwC x).toArray 31)
                    have bx := heap_alloc_new wr (.cells (rwC x).toArray 31)
                    have GA1 := Lib.hid g1
                    have BX := Lib.hid bx
                    have c48 := (cell_block bx 48).trans (rw_date x)
                    have d1 := hasRow_block bx 0 32 (by rw [rwC_length]; decide)
                    have d2 := (rowAt_block bx 0 32 (by rw [rwC_length]; decide)).trans (rw_id x)
                    have c17 := Boxed.cell (((G7W.out.trans g1).block (Array.getElem?_eq_some_iff.1 B7.out).1).trans B7.out)
                    have HSZ : Hid (wr.heap.size < (wr.alloc (.cells (rwC x).toArray 31)).heap.size) := by show _ < _; simp
                    have HHAS := Lib.hid (hasC [] _ _ _ x.id _ (SlAt.gr IS7.out (G7W.out.trans g1)) (by omega))
                    have HBE := Lib.hid (HLE2.out x gs)
                    have HONE := Lib.hid hg2
                    -- what is done with an article that is looked at
                    have HWB : Hid (∀ U, Gr wr U → Calls Tryz.prog 25 #[.pointer (some ⟨bt, 0, none⟩), .agg (rwC x).toArray, ptrV (some br)] U (ByPost (byR x gs ents L) U)) := fun U hU => withdrawsC _ bt bm L x gs (some br) ents U (T7.out.gr (G7W.out.trans hU)) (by omega) (HREG.out.gr (G3W.out.trans hU)) (hg1.gr (GWW.out.trans hU)) hg3 hg2
                    have HBB : Hid (∀ U, Gr wr U → Calls Tryz.prog 18 #[.agg (rwC x).toArray, .slice ba acc.length bc, ptrV (some br)] U (ByPost (byR x gs ents acc) U)) := fun U hU => byL x gs acc _ (some br) ents U (HREG.out.gr (G3W.out.trans hU)) (hg1.gr (GWW.out.trans hU)) hg3 (SlAt.gr CA7.out (G7W.out.trans hU)) (by omega) hg2
                    unfold ptrV at HWB HBB
                    clear g1 bx
                    generalize byR x gs ents L = bo at *
                    generalize byR x gs ents acc = bo2 at *
                    by_cases hdate : x.date < now - 20160
                    · have hdd : decide (x.date < now - 20160) = true := by simpa using hdate
                      cases hhe : hasE [] x.id with
                      | false =>
                        rw [hhe] at HHAS
                        clear hdate
                        go_wp2_with fail
                        refine HHAS.out.mono ?_
                        rintro e w10 ⟨rfl, hg10⟩
                        have G10 := Lib.hid (GA1.out.trans hg10)
                        clear hg10 HHAS
                        go_wp2_with fail
                        go_roundw
                        case rel => exact ⟨m + 1, by omega, by go_num, hG2.out.trans G10.out⟩
                        case measure => simp [intOf]; omega
                      | true =>
                        have HBO := HBE.out (fun h => by rw [hhe] at h; cases h.2)
                        rw [hhe] at HHAS
                        subst HBO
                        clear hdate
                        go_wp2_with fail
                        refine HHAS.out.mono ?_
                        rintro e w10 ⟨rfl, hg10⟩
                        have G10 := Lib.hid (GA1.out.trans hg10)
                        have BX10 := Lib.hid ((hg10.block HSZ.out).trans BX.out)
                        clear hg10 HHAS c17 c48 d1 d2 u1 u2
                        have t1 := hasRow_block BX10.out 0 83 (by rw [rwC_length]; decide)
                        have t2 := (rowAt_block BX10.out 0 83 (by rw [rwC_length]; decide)).trans (rw_whole x)
                        go_wp2_with fail
                        refine (HWB.out _ G10.out).mono ?_
                        rintro e w11 ⟨rfl, hg11⟩
                        have g11 := hg11.alloc (.cells (bC (byId bo)).toArray 23)
                        have BX11 := Lib.hid ((g11.block (Array.getElem?_eq_some_iff.1 BX10.out).1).trans BX10.out)
                        have A11 := Lib.hid (heap_alloc_new w11 (.cells (bC (byId bo)).toArray 23))
                        have G11 := Lib.hid (G10.out.trans g11)
                        have t3 := hasRow_block BX11.out 0 83 (by rw [rwC_length]; decide)
                        have t4 := (rowAt_block BX11.out 0 83 (by rw [rwC_length]; decide)).trans (rw_whole x)
                        clear t1 t2 hg11 g11
                        go_wp2_with fail
                        refine (HBB.out _ G11.out).mono ?_
                        rintro e w12 ⟨rfl, hg12⟩
                        have a1 := (hg12.block (b := w11.heap.size) (by simp)).trans A11.out
                        have a2 := ((Gr.refl w12).alloc (.cells (bC (byId bo)).toArray 23)).block (Array.getElem?_eq_some_iff.1 a1).1
                        have a3 := a2.trans a1
                        have r1 := hasRow_block a3 0 32 (by rw [bC_length]; decide)
                        have r2 := rowAt_block a3 0 32 (by rw [bC_length]; decide)
                        rw [show rowOf (bC (byId bo)) 0 32 = bC (byId bo) from by unfold rowOf; rw [List.drop_zero, List.take_of_length_le (by rw [bC_length]; decide)]] at r2
                        have G12 := Lib.hid (hg12.alloc (.cells (bC (byId bo)).toArray 23))
                        clear a1 a2 a3 hg12 t3 t4
                        go_wp2_with fail
                        go_roundw
                        case rel => exact ⟨m + 1, by omega, by go_num, hG2.out.trans (G11.out.trans G12.out)⟩
                        case measure => simp [intOf]; omega
                    · have hdd : decide (x.date < now - 20160) = false := by simpa using hdate
                      have HBO := HBE.out (fun h => hdate h.1)
                      subst HBO
                      clear hdate
                      have G10 := GA1
                      have BX10 := BX
                      clear c17 d1 d2 HHAS
                      have t1 := hasRow_block BX10.out 0 83 (by rw [rwC_length]; decide)
                      have t2 := (rowAt_block BX10.out 0 83 (by rw [rwC_length]; decide)).trans (rw_whole x)
                      go_wp2_with fail
                      refine (HWB.out _ G10.out).mono ?_
                      rintro e w11 ⟨rfl, hg11⟩
                      have g11 := hg11.alloc (.cells (bC (byId bo)).toArray 23)
                      have BX11 := Lib.hid ((g11.block (Array.getElem?_eq_some_iff.1 BX10.out).1).trans BX10.out)
                      have A11 := Lib.hid (heap_alloc_new w11 (.cells (bC (byId bo)).toArray 23))
                      have G11 := Lib.hid (G10.out.trans g11)
                      have t3 := hasRow_block BX11.out 0 83 (by rw [rwC_length]; decide)
                      have t4 := (rowAt_block BX11.out 0 83 (by rw [rwC_length]; decide)).trans (rw_whole x)
                      clear t1 t2 hg11 g11
                      go_wp2_with fail
                      refine (HBB.out _ G11.out).mono ?_
                      rintro e w12 ⟨rfl, hg12⟩
                      have a1 := (hg12.block (b := w11.heap.size) (by simp)).trans A11.out
                      have a2 := ((Gr.refl w12).alloc (.cells (bC (byId bo)).toArray 23)).block (Array.getElem?_eq_some_iff.1 a1).1
                      have a3 := a2.trans a1
                      have r1 := hasRow_block a3 0 32 (by rw [bC_length]; decide)
                      have r2 := rowAt_block a3 0 32 (by rw [bC_length]; decide)
                      rw [show rowOf (bC (byId bo)) 0 32 = bC (byId bo) from by unfold rowOf; rw [List.drop_zero, List.take_of_length_le (by rw [bC_length]; decide)]] at r2
                      have G12 := Lib.hid (hg12.alloc (.cells (bC (byId bo)).toArray 23))
                      clear a1 a2 a3 hg12 t3 t4
                      go_wp2_with fail
                      go_roundw
                      case rel => exact ⟨m + 1, by omega, by go_num, hG2.out.trans (G11.out.trans G12.out)⟩
                      case measure => simp [intOf]; omega
                  · have hm1 : ¬ (m : Int) < (rows.length : Int) := by omega
                    go_wp2_with fail
                    go_ret
                    exact ⟨rfl, GWW.out⟩

        · have x3 : decide (200000000 < now) = true := by simp; omega
          go_wp2_with fail
          refine (HK.out _ (HE.out.gr G1.out)).mono ?_
          rintro e w3 ⟨rfl, hg3⟩
          go_wp2_with fail
          go_ret
          exact ⟨rfl, G1.out.trans hg3⟩

      · have x2 : decide (now < -1000000) = true := by simp; omega
        go_wp2_with fail
        refine (HK.out _ (HE.out.gr G1.out)).mono ?_
        rintro e w3 ⟨rfl, hg3⟩
        go_wp2_with fail
        go_ret
        exact ⟨rfl, G1.out.trans hg3⟩

    · have x1 : decide ((30 : Int) < (here.length : Int)) = true := by simp; omega
      go_wp2_with fail
      refine (HK.out _ (HE.out.gr G1.out)).mono ?_
      rintro e w3 ⟨rfl, hg3⟩
      go_wp2_with fail
      go_ret
      exact ⟨rfl, G1.out.trans hg3⟩

end Go.Proofs.YtemhfcfebkjioaaGreatDoor

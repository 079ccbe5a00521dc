/- The law CancelCounts returns true (given that the example holds: text Known). -/
import Derived.Test.YtemhfcfebkjioaaGreatDoorFew
namespace Go.Proofs.YtemhfcfebkjioaaGreatDoor
open Go.RowKit

/-- The example holds, from every world of the program's. -/
def KnownOk : Prop := ∀ w, Env w → Calls Tryz.prog 12 #[] w fun e w' => e = .returned (.bool true) ∧ Gr w w'
theorem counts_nil (y : Canc) (x : Rw) (gs : List ByteArray) : countsB y x gs [] = ((y.target == x.id) && decide (x.date ≤ y.date) && (y.author == x.author)) := by
  unfold countsB
  rw [show (gs.any fun g => everB [] g y.author) = false from by simp [everB], Bool.or_false]
set_option maxRecDepth 100000 in
set_option maxHeartbeats 600000 in
theorem wCounts (hK : KnownOk) (y : Canc) (x : Rw) (gs : List ByteArray) (ds : List (Dfn × List Aut)) (v : Value) (w : World) (hE : Env w) (hgs : StrsAt w x.groups gs) (hv : DefsAt w v ds) (hds : ds.length ≤ 9223372036854775807) (hone : oneB (rwC x) = true) :
    Calls Tryz.prog 3 #[.agg (cancC y).toArray, .agg (rwC x).toArray, v] w fun e w' => e = .returned (.bool true) ∧ Gr w w' := by
  obtain ⟨W, hW, hGW, hby, hbx⟩ := box2b w y x
  have HK := Lib.hid (hK W (hE.gr hGW))
  obtain ⟨ga, gc, hgv, hgj⟩ := id hgs
  have HGS := Lib.hid hgs; have HV := Lib.hid hv; have HE := Lib.hid hE; have HG := Lib.hid hGW; have HW := Lib.hid hW; have HBY := Lib.hid hby; have HBX := Lib.hid hbx
  obtain ⟨⟨va, vc, hvv, _, _⟩, _⟩ := id hv
  rw [List.length_map] at hvv
  subst hvv
  clear hgs hv hE hGW hW hby hbx hgj
  go_enter Tryz.func3, Tryz.ntmps3
  go_wp2_with fail
  rw [← HW.out]
  refine HK.out.mono ?_
  rintro e w1 ⟨rfl, hg1⟩
  have by1 := (hg1.block (Array.getElem?_eq_some_iff.1 HBY.out).1).trans HBY.out
  have bx1 := (hg1.block (Array.getElem?_eq_some_iff.1 HBX.out).1).trans HBX.out
  have r1 := hasRow_block bx1 0 83 (by rw [rwC_length]; decide)
  have r2 := (rowAt_block bx1 0 83 (by rw [rwC_length]; decide)).trans (rw_whole x)
  have BY1 := Lib.hid by1; have BX1 := Lib.hid bx1; have G1 := Lib.hid (HG.out.trans hg1)
  clear by1 bx1 hg1
  go_wp2_with fail
  have hrow : SlAt (w1.alloc (.cells (rwC x).toArray 31)) (.slice (some ⟨w1.heap.size, 0, none⟩) 1 1) 83 ([x].map rwC) := one_row (heap_alloc_new w1 _) (rwC_length x)
  refine (fewC [x] _ none 0 0 _ hrow (by intro z hz; simp at hz; subst hz; exact ⟨_, _, _, hgv⟩) (by simp) (by decide)).mono ?_
  rintro e w2 ⟨rfl, rfl⟩
  have G2 := Lib.hid (G1.out.alloc (.cells (rwC x).toArray 31))
  have BY2 := Lib.hid ((((Gr.refl w1).alloc (.cells (rwC x).toArray 31)).block (Array.getElem?_eq_some_iff.1 BY1.out).1).trans BY1.out)
  have BX2 := Lib.hid ((((Gr.refl w1).alloc (.cells (rwC x).toArray 31)).block (Array.getElem?_eq_some_iff.1 BX1.out).1).trans BX1.out)
  clear hrow BY1 BX1 r1 r2
  cases hf : fewB [x] 0 with
  | false =>
    go_wp2_with fail
    refine (hK _ (HE.out.gr G2.out)).mono ?_
    rintro e w3 ⟨rfl, hg3⟩
    go_wp2_with fail
    go_ret
    exact ⟨rfl, G2.out.trans hg3⟩
  | true =>
    have hl : gs.length ≤ 1000000 := by
      have h20 : smallB x = true := by unfold fewB at hf; simp at hf; exact hf
      unfold smallB grpLen at h20
      rw [hgv] at h20
      simp at h20; omega
    clear hf
    go_wp2_with fail
    refine (madeC ds _ _ (HE.out.gr G2.out) (HV.out.gr G2.out) hds).mono ?_
    rintro e w3 ⟨br, ents, rfl, hreg, _, hg3⟩
    have by3 := (hg3.block (Array.getElem?_eq_some_iff.1 BY2.out).1).trans BY2.out
    have bx3 := (hg3.block (Array.getElem?_eq_some_iff.1 BX2.out).1).trans BX2.out
    have z1 := (Array.getElem?_eq_some_iff.1 by3).1
    have z2 := (Array.getElem?_eq_some_iff.1 bx3).1
    have r1 := hasRow_block by3 0 81 (by rw [cancC_length]; decide)
    have r2 := (rowAt_block by3 0 81 (by rw [cancC_length]; decide)).trans (canc_whole y)
    have r3 := hasRow_block bx3 0 83 (by rw [rwC_length]; decide)
    have r4 := (rowAt_block bx3 0 83 (by rw [rwC_length]; decide)).trans (rw_whole x)
    have r5 := hasRow_block by3 49 32 (by rw [cancC_length]; decide)
    have r6 := (rowAt_block by3 49 32 (by rw [cancC_length]; decide)).trans (canc_target y)
    have r7 := hasRow_block bx3 0 32 (by rw [rwC_length]; decide)
    have r8 := (rowAt_block bx3 0 32 (by rw [rwC_length]; decide)).trans (rw_id x)
    have r9 := (cell_block by3 48).trans (canc_date y)
    have r10 := (cell_block bx3 48).trans (rw_date x)
    have r11 := hasRow_block by3 32 16 (by rw [cancC_length]; decide)
    have r12 := (rowAt_block by3 32 16 (by rw [cancC_length]; decide)).trans (canc_author y)
    have r13 := hasRow_block bx3 32 16 (by rw [rwC_length]; decide)
    have r14 := (rowAt_block bx3 32 16 (by rw [rwC_length]; decide)).trans (rw_author x)
    have G3 := Lib.hid (G2.out.trans hg3); have HR := Lib.hid hreg
    have HN := Lib.hid (counts_nil y x gs)
    have HC1 : Hid (∀ p : GD, Calls Tryz.prog 15 #[.agg (cancC y).toArray, .agg (rwC x).toArray, .pointer (some ⟨br, 0, none⟩)] (gw w3 p) fun e w'' => e = .returned (.bool (countsB y x gs ents)) ∧ ∃ q : GD, w'' = gw w3 q) := fun p => gr_call (countsC y x gs (some br) ents _ (HR.out.gr (gr_gw w3 _)) (HGS.out.gr (G3.out.trans (gr_gw w3 _))) hl)
    have HC2 : Hid (∀ p : GD, Calls Tryz.prog 16 #[.agg (cancC y).toArray, .agg (rwC x).toArray, .pointer (some ⟨br, 0, none⟩)] (gw w3 p) fun e w'' => e = .returned (.bool (countsB y x gs ents)) ∧ ∃ q : GD, w'' = gw w3 q) := fun p => gr_call (countsL y x gs (some br) ents _ (HR.out.gr (gr_gw w3 _)) (HGS.out.gr (G3.out.trans (gr_gw w3 _))) hl)
    have HC3 : Hid (∀ p : GD, Calls Tryz.prog 15 #[.agg (cancC y).toArray, .agg (rwC x).toArray, .pointer none] (gw w3 p) fun e w'' => e = .returned (.bool (countsB y x gs [])) ∧ ∃ q : GD, w'' = gw w3 q) := fun p => gr_call (countsC y x gs none [] _ rfl (HGS.out.gr (G3.out.trans (gr_gw w3 _))) hl)
    rw [HN.out] at HC3
    unfold ptrV
    generalize countsB y x gs ents = cb at *
    clear by3 bx3 hg3 hreg BY2 BX2
    generalize hA : (y.author == x.author) = bA at *
    generalize hT : (y.target == x.id) = bT at *
    cases bT with
    | false =>
      rw [Bool.false_and, Bool.false_and] at HC3
      go_wp2_with fail
      refine wp_region_gr (by kernel_rfl) (by kernel_rfl) ?_
      repeat (go_big_quiet_step (first | (go_at_call 16; with_reducible exact HC2.out _) | (go_at_call 15; with_reducible exact HC1.out _) | (go_at_call 15; with_reducible exact HC3.out _)))
      refine wpQuiet_nil ?_
      rintro _ ⟨p, rfl⟩
      have hp := Lib.hid (G3.out.trans (gr_gw w3 p))
      generalize gw w3 p = U at *
      go_wp2_with fail
      go_ret
      exact ⟨by simp, hp.out⟩
    | true =>
      rw [Bool.true_and] at HC3
      by_cases hd : x.date ≤ y.date
      · have hd1 : decide (x.date ≤ y.date) = true := by simpa using hd
        rw [hd1, Bool.true_and] at HC3
        go_wp2_with fail
        refine wp_region_gr (by kernel_rfl) (by kernel_rfl) ?_
        repeat (go_big_quiet_step (first | (go_at_call 16; with_reducible exact HC2.out _) | (go_at_call 15; with_reducible exact HC1.out _) | (go_at_call 15; with_reducible exact HC3.out _)))
        refine wpQuiet_nil ?_
        rintro _ ⟨p, rfl⟩
        have hp := Lib.hid (G3.out.trans (gr_gw w3 p))
        generalize gw w3 p = U at *
        go_wp2_with fail
        go_ret
        exact ⟨by simp, hp.out⟩
      · have hd1 : decide (x.date ≤ y.date) = false := by simpa using hd
        rw [hd1, Bool.false_and] at HC3
        go_wp2_with fail
        refine wp_region_gr (by kernel_rfl) (by kernel_rfl) ?_
        repeat (go_big_quiet_step (first | (go_at_call 16; with_reducible exact HC2.out _) | (go_at_call 15; with_reducible exact HC1.out _) | (go_at_call 15; with_reducible exact HC3.out _)))
        refine wpQuiet_nil ?_
        rintro _ ⟨p, rfl⟩
        have hp := Lib.hid (G3.out.trans (gr_gw w3 p))
        generalize gw w3 p = U at *
        go_wp2_with fail
        go_ret
        exact ⟨by simp, hp.out⟩
end Go.Proofs.YtemhfcfebkjioaaGreatDoor

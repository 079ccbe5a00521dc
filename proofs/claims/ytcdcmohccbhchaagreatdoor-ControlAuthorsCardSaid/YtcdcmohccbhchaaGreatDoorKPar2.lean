/- The reference's ParseAuthor. -/
import Derived.Test.YtcdcmohccbhchaaGreatDoorKPaa
namespace Go.Proofs.YtcdcmohccbhchaaGreatDoor
open Go.RowKit

theorem add_fin : ∀ (i : Fin 256) (j : Fin 16), ((i.val : Int) * (16 : Int) % (256 : Int) + (j.val : Int)) % (256 : Int) = (((UInt8.ofNat i.val <<< 4) ||| UInt8.ofNat j.val).toNat : Int) := by decide +kernel
theorem add_u8 (x v : UInt8) (h : v.toNat < 16) : ((x.toNat : Int) * (16 : Int) % (256 : Int) + (v.toNat : Int)) % (256 : Int) = ((x <<< 4 ||| v).toNat : Int) := by
  have := add_fin ⟨x.toNat, x.toNat_lt⟩ ⟨v.toNat, h⟩
  simpa using this
set_option maxRecDepth 100000 in
set_option maxHeartbeats 2000000 in
theorem refParseC (s : ByteArray) (w : World) (hs : s.size ≤ 1000000) : Calls Tryz.prog 26 #[.string s] w fun e w' => e = .returned (paV (bl s)) ∧ Gr w w' := by
  have HG := Lib.hid (((Gr.refl w).alloc (.cells (bC zAut).toArray 24)).alloc (.cells (bC zAut).toArray 24))
  have HB0 := Lib.hid (heap_alloc2_old w (.cells (bC zAut).toArray 24) (.cells (bC zAut).toArray 24))
  have HB := Lib.hid (heap_alloc2_new w (.cells (bC zAut).toArray 24) (.cells (bC zAut).toArray 24))
  go_enter Tryz.func26, Tryz.ntmps26
  go_wp2_with fail
  go_loopw [6, 7, 8, 9, 10, 11, 12, 13, 14, 15, 16, 17, 18, 19, 20, 21, 24, 25, 26, 27, 28, 29, 30, 31, 32, 33, 34, 35, 36, 37] (fun i _ _ _ _ _ _ _ _ _ _ _ _ _ _ _ _ _ _ _ _ _ _ _ _ _ _ _ _ _ wr => ∃ k : Nat, k ≤ min s.size 32 ∧ i = .int .i64 k ∧ Hid (((bl s).take k).all hexB = true) ∧ Hid (Gr w wr) ∧ Hid (wr.heap[w.heap.size]? = some (.cells (bC zAut).toArray 24 (0, 0))) ∧ Hid (wr.heap[w.heap.size + 1]? = some (.cells ((digTo 16 (bl s) k).map cU).toArray 24 (0, 0)))) (fun i _ _ _ _ _ _ _ _ _ _ _ _ _ _ _ _ _ _ _ _ _ _ _ _ _ _ _ _ _ _ => 32 - (intOf i).toNat)
  case atStart => exact ⟨0, Nat.zero_le _, rfl, rfl, HG.out, HB0.out, HB.out⟩
  case round =>
    obtain ⟨k, hk, rfl, hA, hG, hB0, hB⟩ := hrel
    have hr := hasRow_block hB0.out 0 16 (by rw [bC_length]; decide)
    have hf := freeRow_block hB0.out 0 16
    have hb0 := Lib.hid (sets_whole (cs := bC zAut) hB0.out rfl)
    have hg0 := Lib.hid (hG.out.setsOwn (b := w.heap.size) (Nat.le_refl _) (bC zAut) 0)
    have hl : ((digTo 16 (bl s) k).map cU).length = 16 := by rw [List.length_map, digTo_len]
    by_cases hlt : k < min s.size 32
    · have hks : k < s.size := by omega
      have hk1 : (k : Int) < 32 := by omega
      have hk2 : (0 : Int) ≤ (k : Int) := by omega
      have hk3 : (k : Int) < (s.size : Int) := by omega
      have HI := Lib.hid (digitC s[k])
      have hgd : (bl s).getD k 0 = s[k] := by
        rw [List.getD_eq_getElem?_getD, List.getElem?_eq_getElem (by rw [bl_length]; exact hks)]; rfl
      by_cases hv : hexV s[k] < 0
      · have HP := Lib.hid (pa_bad (s := bl s) (k := k) (by rw [bl_length]; exact hlt) hA.out (by rw [hgd, hexB_iff]; exact hv))
        clear hgd hl hA hB HG HB0 HB
        go_wp2_with (go_at_call 58; refine (HI.out _).mono ?_; rintro e w' ⟨rfl, rfl⟩)
        refine bodyPost_ret (results_cell_tmp2 (p := 2) (u1 := 3) (u2 := 4) rfl _ _ w.heap.size _ _ _ _ rfl hb0.out Tryz.underlying24 rfl (by rw [List.size_toArray, bC_length]; kernel_rfl)) rfl ?_
        exact ⟨by rw [HP.out]; rfl, hg0.out⟩
      · have hb1 : hexB s[k] = true := by
          cases hb : hexB s[k] with
          | true => rfl
          | false => exact absurd ((hexB_iff _).1 hb) hv
        have HA1 := Lib.hid (all_take_succ (bl s) k (by rw [bl_length]; exact hks) hA.out (by rw [hgd]; exact hb1))
        obtain ⟨_, hv16, hvn⟩ := hex_back s[k] hb1
        have hD : Hid ((digTo 16 (bl s) (k + 1)).map cU = ((digTo 16 (bl s) k).map cU).set (k / 2) (cU ((digTo 16 (bl s) k).getD (k / 2) 0 <<< 4 ||| hexN s[k]))) := by
          show _ = _
          rw [digTo, map_putD, hgd]
        have hj : k / 2 < (digTo 16 (bl s) k).length := by rw [digTo_len]; omega
        have c0 : wr.cell? ⟨w.heap.size + 1, k / 2, none⟩ = some (.int .u8 (((digTo 16 (bl s) k).getD (k / 2) 0).toNat : Int)) := by
          rw [cell_block hB.out, List.getElem?_map, List.getElem?_eq_getElem hj, List.getD_eq_getElem?_getD, List.getElem?_eq_getElem hj]; rfl
        have f0 := free_block hB.out (k / 2)
        have hz1 := (Array.getElem?_eq_some_iff.1 hB.out).1
        have hor := add_u8 ((digTo 16 (bl s) k).getD (k / 2) 0) (hexN s[k]) (by rw [hvn]; exact hv16)
        generalize (digTo 16 (bl s) k).getD (k / 2) 0 = x at *
        obtain ⟨n, hn, hnn⟩ : ∃ n : Nat, hexV s[k] = (n : Int) ∧ (hexN s[k]).toNat = n := ⟨(hexV s[k]).toNat, by omega, hvn⟩
        rw [hnn] at hor
        rw [hn] at HI
        have hw : IntKind.u8.wrap (n : Int) = (n : Int) := by rw [IntKind.wrap_u8]; omega
        have hn0 : ¬ (n : Int) < 0 := by omega
        have hdiv : ((k : Int) / 2).toNat = k / 2 := by omega
        generalize x <<< 4 ||| hexN s[k] = y at *
        have c0' : Hid (∀ m, (wr.drewN m).cell? ⟨w.heap.size + 1, k / 2, none⟩ = some (.int .u8 (x.toNat : Int)) ∧ (wr.drewN m).frozen? ⟨w.heap.size + 1, k / 2, none⟩ = false) := fun m => ⟨c0, f0⟩
        clear hgd hl hv hv16 hvn hn hnn hb1 hA HG HB0 HB hb0 hg0
        go_wp2_with (go_at_call 58; refine (HI.out _).mono ?_; rintro e w' ⟨rfl, rfl⟩)
        have q1 : (0 : Int) ≤ (k : Int) / 2 := by omega
        have q2 : (k : Int) / 2 < 16 := by omega
        have q3 : k / 2 < 16 := by omega
        have hw2 : IntKind.u8.wrap (IntKind.u8.wrap ((x.toNat : Int) * 16) + (n : Int)) = (y.toNat : Int) := by rw [IntKind.wrap_u8, IntKind.wrap_u8]; exact hor
        refine wp_region_tail 13 (fun u => ∃ p : LD, u = lw wr p) (by kernel_rfl) (by kernel_rfl) (cl_drew wr) ?_
        simp only [List.take_succ_cons, List.take_zero, List.drop_succ_cons, List.drop_zero]
        repeat (go_big_quiet_step (first | (go_at_call 58; exact lay_same (HI.out _))))
        refine wpQuiet_nil ?_
        rintro _ ⟨p, rfl⟩
        have gU := (lay_lw wr p).1
        have hU0 := Lib.hid ((gU.block (Array.getElem?_eq_some_iff.1 hB0.out).1).trans hB0.out)
        have hU := (gU.block (Array.getElem?_eq_some_iff.1 hB.out).1).trans hB.out
        have GU := Lib.hid (hG.out.trans gU)
        have hzU := (Array.getElem?_eq_some_iff.1 hU).1
        have fU := free_block hU (k / 2)
        have dU := (gU.cell (p := ⟨w.heap.size + 1, k / 2, none⟩) hz1).trans c0
        have HU := Lib.hid hU
        clear c0 f0 hB0 hB hG gU hr hf c0' hU
        generalize lw wr p = U at *
        have HB1 := Lib.hid (heap_setCell_same U (w.heap.size + 1) (k / 2) _ _ (cU y) HU.out)
        have HB2 := Lib.hid ((heap_setCell_other U ⟨w.heap.size + 1, k / 2, none⟩ w.heap.size (cU y) (by show w.heap.size ≠ w.heap.size + 1; omega)).trans hU0.out)
        have HG1 := Lib.hid (GU.out.setOwn (b := w.heap.size + 1) (o := k / 2) (by omega) (cU y))
        go_wp2_with fail
        go_roundw
        case rel => exact ⟨k + 1, by omega, by go_num, HA1.out, HG1.out, HB2.out, by show _ = _; rw [hD.out]; simpa [cU] using HB1.out⟩
        case measure => simp [intOf]; omega
    · have hsz := bl_length s
      by_cases h1 : s.size < 32
      · have hkk : k = s.size := by omega
        subst hkk
        have HP := Lib.hid (pa_short (s := bl s) (by omega) (by have := hA.out; rwa [List.take_of_length_le (by omega)] at this))
        rw [hsz] at HP
        have h2 : (s.size : Int) < 32 := by omega
        clear hl hA hB hsz HG HB0 HB
        go_wp2_with fail
        refine bodyPost_ret (results_cell_tmp2 (p := 2) (u1 := 3) (u2 := 4) rfl _ _ w.heap.size _ _ _ _ rfl hb0.out Tryz.underlying24 rfl (by rw [List.size_toArray, bC_length]; kernel_rfl)) rfl ?_
        exact ⟨by rw [HP.out]; rfl, hg0.out⟩
      · have hkk : k = 32 := by omega
        have hk0 : ¬ (k : Int) < 32 := by omega
        have hk9 : (k : Int) < (s.size : Int) ∨ ¬ (k : Int) < (s.size : Int) := by omega
        have h2 : ¬ (s.size : Int) < 32 := by omega
        by_cases h3 : 32 < s.size
        · have HP := Lib.hid (pa_long (s := bl s) hkk (by omega) hA.out)
          have h4 : 32 < (s.size : Int) := by omega
          have h5 : (k : Int) < (s.size : Int) := by omega
          clear hl hA hB hsz HG HB0 HB hkk hk hlt hk9 hG
          go_wp2_with fail
          refine bodyPost_ret (results_cell_tmp2 (p := 2) (u1 := 3) (u2 := 4) rfl _ _ w.heap.size _ _ _ _ rfl hb0.out Tryz.underlying24 rfl (by rw [List.size_toArray, bC_length]; kernel_rfl)) rfl ?_
          exact ⟨by rw [HP.out]; rfl, hg0.out⟩
        · have HP := Lib.hid (pa_ok (s := bl s) hkk (by omega) (by have := hA.out; rwa [List.take_of_length_le (by omega)] at this))
          have h4 : ¬ 32 < (s.size : Int) := by omega
          have h5 : ¬ (k : Int) < (s.size : Int) := by omega
          have hr1 := hasRow_block hB.out 0 16 (by rw [hl]; decide)
          have hq := (rowAt_block hB.out 0 16 (by rw [hl]; decide)).trans (rowOf_all _ _ hl)
          have h1' : oneB ((digTo 16 (bl s) k).map cU) = true := List.all_eq_true.2 fun v hv => by obtain ⟨b, _, rfl⟩ := List.mem_map.1 hv; rfl
          have hb' := Lib.hid (sets_whole (cs := (digTo 16 (bl s) k).map cU) hB0.out (by rw [hl, bC_length]))
          have hg' := Lib.hid (hG.out.setsOwn (b := w.heap.size) (Nat.le_refl _) ((digTo 16 (bl s) k).map cU) 0)
          clear hA hB hB0 hsz hkk hk hlt HG HB HB0 hG hk9
          generalize (digTo 16 (bl s) k).map cU = cs at *
          go_wp2_with fail
          refine bodyPost_ret (results_cell_tmp2 (p := 2) (u1 := 3) (u2 := 4) rfl _ _ w.heap.size _ _ _ _ rfl hb'.out Tryz.underlying24 rfl (by rw [List.size_toArray, hl]; kernel_rfl)) rfl ?_
          exact ⟨by rw [HP.out]; rfl, hg'.out⟩
end Go.Proofs.YtcdcmohccbhchaaGreatDoor

/- verify.examine of the example's articles. -/
import Derived.Test.YteknmbijodbfoaaGreatDoorVBlt
namespace Go.Proofs.YteknmbijodbfoaaGreatDoor
open Go.RowKit

theorem el_one (k : Ctt) (hk : oneB (cttC k) = true) (y : Vector UInt8 32) (b : Bool) : oneB (elC k y b) = true := by
  unfold elC; simp only [oneB_append, hk, bC32_one]; rfl
theorem sn_content (k : Ctt) (l : List Value) : rowOf (snC k l) 0 75 = cttC k := rowOf_app_l _ _ _ (cttC_length k)
theorem sn_sig (k : Ctt) (l : List Value) (h : l.length = 562) : rowOf (snC k l) 75 562 = l := by
  unfold snC
  rw [rowOf_app_r (cttC k) l 75 562 75 (cttC_length k) (Nat.le_refl _), rowOf_all _ _ h]
structure SnFacts (W : World) (n : Nat) (k : Ctt) (l : List Value) : Prop where
  h0 : hasRow W ⟨n, 0, none⟩ 75 = true
  r0 : rowAt W ⟨n, 0, none⟩ 75 = cttC k
  h1 : hasRow W ⟨n, 75, none⟩ 562 = true
  r1 : rowAt W ⟨n, 75, none⟩ 562 = l
  z : n < W.heap.size
theorem sn_facts {W : World} {n : Nat} {k : Ctt} {l : List Value} (hl : l.length = 562) (h : W.heap[n]? = some (.cells (snC k l).toArray 50 (0, 0))) : SnFacts W n k l := by
  have hz : (snC k l).length = 637 := by unfold snC; rw [List.length_append, cttC_length, hl]
  exact ⟨hasRow_block h 0 75 (by omega), (rowAt_block h 0 75 (by omega)).trans (sn_content k l), hasRow_block h 75 562 (by omega), (rowAt_block h 75 562 (by omega)).trans (sn_sig k l hl), lt_of_heap h⟩
theorem sizeEl (k : Ctt) (y : Vector UInt8 32) (b : Bool) : (Tryz.prog.info? 67).map (fun x => x.size) = some (elC k y b).toArray.size := by
  rw [List.size_toArray, el_len]; kernel_rfl
theorem ctZ_one : oneB (cttC ctZ) = true := by decide +kernel
set_option maxRecDepth 100000 in
set_option maxHeartbeats 4000000 in
theorem examBad (a r : V16) (s : ByteArray) (g c : Nat) (hok : Ok a r s c) (E : Nat → V16) (pv : Value) (L : V16) (w : World) (hB : Bs w) (hGs : GsAt w g) (hp : Nds w pv [L]) (hbad : rootV (half (formL a r s)) ⟨0, E, [L]⟩ ≠ r) :
    Calls Tryz.prog 20 #[.agg (snC (ctK a r s g c) (sgC 0 E pv)).toArray] w fun e w' => e = .returned (.agg (elC ctZ zId false).toArray) ∧ Gr w w' := by
  obtain ⟨n, hn⟩ : ∃ n, w.heap.size = n := ⟨_, rfl⟩
  have HN := Lib.hid hn
  obtain ⟨ap, cp, hpe⟩ := hp.shape
  replace hpe : pv = .slice ap 1 cp := hpe
  subst hpe
  obtain ⟨k, hk⟩ : ∃ k, ctK a r s g c = k := ⟨_, rfl⟩
  obtain ⟨S, hS⟩ : ∃ S, sgC 0 E (.slice ap 1 cp) = S := ⟨_, rfl⟩
  have hSl : S.length = 562 := by rw [← hS]; exact sgC_len _ _ _
  have hS1 : oneB S = true := by rw [← hS]; exact sgC_one _ _ _ _ _
  obtain ⟨U0, hU⟩ : ∃ U0, (w.alloc (.cells (snC k S).toArray 50)).alloc (.cells (elC ctZ zId false).toArray 67) = U0 := ⟨_, rfl⟩
  have H0 : Hid (U0.heap[n]? = some (.cells (snC k S).toArray 50 (0, 0))) := by
    show _ = _; rw [← hU]
    exact (((Gr.refl _).alloc _).block (by simp; omega)).trans (heap_new _ _ _ (by omega))
  have H1 : Hid (U0.heap[n + 1]? = some (.cells (elC ctZ zId false).toArray 67 (0, 0))) := by
    show _ = _; rw [← hU]
    exact heap_new _ _ _ (by simp; omega)
  have HG : Hid (Gr w U0) := by show Gr _ _; rw [← hU]; exact ((Gr.refl w).alloc _).alloc _
  have HV : Hid (∀ W, Gr U0 W → Calls Tryz.prog 31 #[.agg (cttC k).toArray, .agg S.toArray] W fun e w' => e = .returned (.int .i64 17) ∧ Gr W w') := fun W hW => by
    have h := canVerifyC a r s g c hok E (.slice ap 1 cp) L W (hB.gr (HG.out.trans hW)) (hGs.gr (HG.out.trans hW)) (hp.gr (HG.out.trans hW))
    rw [if_pos hbad, hk, hS] at h
    exact h
  rw [hk, hS]
  have b75 : oneB (cttC k) = true := by rw [← hk]; exact ctK_one _ _ _ _ _
  have l75 := cttC_length k
  have e1 := el_len ctZ zId false
  have e2 := el_one ctZ ctZ_one zId false
  have f := sn_facts (W := w.alloc (.cells (snC k S).toArray 50)) hSl (heap_new _ _ n hn.symm)
  obtain ⟨f0, f1, f2, f3, f4⟩ := f
  replace hU := Lib.hid hU
  clear hk hS hok hB hGs hp hbad
  go_enter Tryz.func20, Tryz.ntmps20
  go_wp2_with fail
  rw [hU.out]
  refine (HV.out U0 (Gr.refl U0)).mono ?_
  rintro e w1 ⟨rfl, g1⟩
  have K1 := Lib.hid ((g1.block (lt_of_heap H1.out)).trans H1.out)
  have G1 := Lib.hid g1
  clear f0 f1 f2 f3 f4 g1
  have z0 := hasRow_block K1.out 0 108 (by rw [el_len]; decide)
  have z1 := freeRow_block K1.out 0 108
  have z2 := lt_of_heap K1.out
  go_wp2_with fail
  have HE : Hid ((w1.setCells (n + 1) 0 (elC ctZ zId false)).heap[n + 1]? = some (.cells (elC ctZ zId false).toArray 67 (0, 0))) := sets_whole K1.out (by rw [el_len])
  have HG7 := Lib.hid ((HG.out.trans G1.out).setsOwn (b := n + 1) (by have := HN.out; omega) (elC ctZ zId false) 0)
  refine bodyPost_ret (results_cell_row rfl _ _ (n + 1) _ _ _ _ rfl HE.out Tryz.underlying67 rfl (sizeEl _ _ _)) rfl ?_
  exact ⟨rfl, HG7.out⟩
set_option maxRecDepth 100000 in
set_option maxHeartbeats 4000000 in
theorem examGood (a r : V16) (s : ByteArray) (g c : Nat) (hok : Ok a r s c) (E : Nat → V16) (pv : Value) (L : V16) (w : World) (hB : Bs w) (hGs : GsAt w g) (hp : Nds w pv [L]) (hbad : rootV (half (formL a r s)) ⟨0, E, [L]⟩ = r) :
    Calls Tryz.prog 20 #[.agg (snC (ctK a r s g c) (sgC 0 E pv)).toArray] w fun e w' => e = .returned (.agg (elC (ctK a r s g c) (idV (formL a r s)) true).toArray) ∧ Gr w w' := by
  obtain ⟨n, hn⟩ : ∃ n, w.heap.size = n := ⟨_, rfl⟩
  have HN := Lib.hid hn
  obtain ⟨ap, cp, hpe⟩ := hp.shape
  replace hpe : pv = .slice ap 1 cp := hpe
  subst hpe
  obtain ⟨k, hk⟩ : ∃ k, ctK a r s g c = k := ⟨_, rfl⟩
  obtain ⟨S, hS⟩ : ∃ S, sgC 0 E (.slice ap 1 cp) = S := ⟨_, rfl⟩
  have hSl : S.length = 562 := by rw [← hS]; exact sgC_len _ _ _
  have hS1 : oneB S = true := by rw [← hS]; exact sgC_one _ _ _ _ _
  obtain ⟨U0, hU⟩ : ∃ U0, (w.alloc (.cells (snC k S).toArray 50)).alloc (.cells (elC ctZ zId false).toArray 67) = U0 := ⟨_, rfl⟩
  have H0 : Hid (U0.heap[n]? = some (.cells (snC k S).toArray 50 (0, 0))) := by
    show _ = _; rw [← hU]
    exact (((Gr.refl _).alloc _).block (by simp; omega)).trans (heap_new _ _ _ (by omega))
  have H1 : Hid (U0.heap[n + 1]? = some (.cells (elC ctZ zId false).toArray 67 (0, 0))) := by
    show _ = _; rw [← hU]
    exact heap_new _ _ _ (by simp; omega)
  have HG : Hid (Gr w U0) := by show Gr _ _; rw [← hU]; exact ((Gr.refl w).alloc _).alloc _
  have HV : Hid (∀ W, Gr U0 W → Calls Tryz.prog 31 #[.agg (cttC k).toArray, .agg S.toArray] W fun e w' => e = .returned (.int .i64 0) ∧ Gr W w') := fun W hW => by
    have h := canVerifyC a r s g c hok E (.slice ap 1 cp) L W (hB.gr (HG.out.trans hW)) (hGs.gr (HG.out.trans hW)) (hp.gr (HG.out.trans hW))
    rw [if_neg (by rw [hbad]; simp), hk, hS] at h
    exact h
  have HID : Hid (∀ W, Gr U0 W → Calls Tryz.prog 17 #[.agg (cttC k).toArray] W fun e w' => e = .returned (.tuple #[.agg (bC (idV (formL a r s))).toArray, .int .i64 0]) ∧ Gr W w') := fun W hW => by
    rw [← hk]; exact idB hok (hB.gr (HG.out.trans hW)) (hGs.gr (HG.out.trans hW))
  obtain ⟨y, hy⟩ : ∃ y, idV (formL a r s) = y := ⟨_, rfl⟩
  rw [hy] at HID
  rw [hk, hS, hy]
  have b1 := bC32_len y
  have b2 := bC32_one y
  have b75 : oneB (cttC k) = true := by rw [← hk]; exact ctK_one _ _ _ _ _
  have l75 := cttC_length k
  have e1 := el_len ctZ zId false
  have e2 := el_one ctZ ctZ_one zId false
  have f := sn_facts (W := w.alloc (.cells (snC k S).toArray 50)) hSl (heap_new _ _ n hn.symm)
  obtain ⟨f0, f1, f2, f3, f4⟩ := f
  replace hU := Lib.hid hU
  clear hk hS hok hB hGs hp hbad
  go_enter Tryz.func20, Tryz.ntmps20
  go_wp2_with fail
  rw [hU.out]
  refine (HV.out U0 (Gr.refl U0)).mono ?_
  rintro e w1 ⟨rfl, g1⟩
  have G1 := Lib.hid g1
  clear f0 f1 f2 f3 f4 g1
  obtain ⟨f0, f1, f2, f3, f4⟩ := sn_facts hSl ((G1.out.block (lt_of_heap H0.out)).trans H0.out)
  go_wp2_with fail
  refine (HID.out w1 G1.out).mono ?_
  rintro e w2 ⟨rfl, g2⟩
  have G2 := Lib.hid ((G1.out.trans g2).alloc (.cells (bC y).toArray 39))
  clear f0 f1 f2 f3 f4 g2
  obtain ⟨f0, f1, f2, f3, f4⟩ := sn_facts hSl ((G2.out.block (lt_of_heap H0.out)).trans H0.out)
  have K1 := Lib.hid ((G2.out.block (lt_of_heap H1.out)).trans H1.out)
  have z0 := hasRow_block K1.out 0 108 (by rw [el_len]; decide)
  have z1 := freeRow_block K1.out 0 108
  have z2 := lt_of_heap K1.out
  have e3 := el_len k y true
  have e4 := el_one k b75 y true
  go_wp2_with fail
  have HE : Hid (((w2.alloc (.cells (bC y).toArray 39)).setCells (n + 1) 0 (elC k y true)).heap[n + 1]? = some (.cells (elC k y true).toArray 67 (0, 0))) := sets_whole K1.out (by rw [el_len, el_len])
  have HG7 := Lib.hid ((HG.out.trans G2.out).setsOwn (b := n + 1) (by have := HN.out; omega) (elC k y true) 0)
  refine bodyPost_ret (results_cell_row rfl _ _ (n + 1) _ _ _ _ rfl HE.out Tryz.underlying67 rfl (sizeEl _ _ _)) rfl ?_
  exact ⟨rfl, HG7.out⟩
end Go.Proofs.YteknmbijodbfoaaGreatDoor

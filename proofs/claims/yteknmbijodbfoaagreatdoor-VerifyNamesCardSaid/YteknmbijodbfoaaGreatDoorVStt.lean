/- verify.Status of the example's articles. -/
import Derived.Test.YteknmbijodbfoaaGreatDoorVExm
import Derived.Test.YteknmbijodbfoaaGreatDoorVRng
import Derived.Test.YteknmbijodbfoaaGreatDoorVTab
namespace Go.Proofs.YteknmbijodbfoaaGreatDoor
open Go.RowKit

structure ElFacts (W : World) (n : Nat) (k : Ctt) (y : Vector UInt8 32) (b : Bool) : Prop where
  h0 : hasRow W ⟨n, 0, none⟩ 75 = true
  r0 : rowAt W ⟨n, 0, none⟩ 75 = cttC k
  h1 : hasRow W ⟨n, 75, none⟩ 32 = true
  r1 : rowAt W ⟨n, 75, none⟩ 32 = bC y
  c : W.cell? ⟨n, 107, none⟩ = some (.bool b)
  z : n < W.heap.size
theorem el_facts {W : World} {n : Nat} {k : Ctt} {y : Vector UInt8 32} {b : Bool} (h : W.heap[n]? = some (.cells (elC k y b).toArray 67 (0, 0))) : ElFacts W n k y b := by
  have hz := el_len k y b
  refine ⟨hasRow_block h 0 75 (by omega), (rowAt_block h 0 75 (by omega)).trans (rowOf_app_l _ _ _ (cttC_length k)), hasRow_block h 75 32 (by omega), (rowAt_block h 75 32 (by omega)).trans ?_, (cell_block h 107).trans ?_, lt_of_heap h⟩
  · unfold elC
    rw [rowOf_app_r (cttC k) _ 75 32 75 (cttC_length k) (Nat.le_refl _), rowOf_app_l _ _ _ (bC32_len y)]
  · unfold elC
    rw [get_app_r (cttC k) _ 107 75 (cttC_length k) (by decide), get_app_r (bC y) _ 32 32 (bC32_len y) (Nat.le_refl _)]; rfl
set_option maxRecDepth 100000 in
set_option maxHeartbeats 4000000 in
theorem statBad (k : Ctt) (hk : oneB (cttC k) = true) (y : Vector UInt8 32) (v : Option Addr) (w : World) : Calls Tryz.prog 21 #[.agg (elC k y false).toArray, .pointer v] w fun e w' => e = .returned (.int .i64 3) ∧ Gr w w' := by
  obtain ⟨n, hn⟩ : ∃ n, w.heap.size = n := ⟨_, rfl⟩
  have HG : Hid (Gr w (w.alloc (.cells (elC k y false).toArray 67))) := (Gr.refl w).alloc _
  have f := el_facts (heap_new w (.cells (elC k y false).toArray 67) n hn.symm)
  have f0 := f.c
  have f1 := f.z
  have e1 := el_len k y false
  have e2 := el_one k hk y false
  clear f
  go_enter Tryz.func21, Tryz.ntmps21
  go_wp2_with fail
  go_ret
  exact ⟨rfl, HG.out⟩
set_option maxRecDepth 100000 in
set_option maxHeartbeats 4000000 in
theorem statGood (a r : V16) (s : ByteArray) (g c : Nat) (y : Vector UInt8 32) (x : Nat) (w : World) (hT : VTabs w) (hR : RingAt w x) (hy : half (1 :: r.toList) = a) : Calls Tryz.prog 21 #[.agg (elC (ctK a r s g c) y true).toArray, .pointer (some ⟨x, 0, none⟩)] w fun e w' => e = .returned (.int .i64 0) ∧ Gr w w' := by
  obtain ⟨n, hn⟩ : ∃ n, w.heap.size = n := ⟨_, rfl⟩
  obtain ⟨k, hk⟩ : ∃ k, ctK a r s g c = k := ⟨_, rfl⟩
  have HN := Lib.hid hn
  obtain ⟨U0, hU⟩ : ∃ U0, w.alloc (.cells (elC k y true).toArray 67) = U0 := ⟨_, rfl⟩
  have HG : Hid (Gr w U0) := by show Gr _ _; rw [← hU]; exact (Gr.refl w).alloc _
  have H0 : Hid (U0.heap[n]? = some (.cells (elC k y true).toArray 67 (0, 0))) := by show _ = _; rw [← hU]; exact heap_new _ _ _ hn.symm
  obtain ⟨U1, hU1⟩ : ∃ U1, U0.alloc (.cells (cttC k).toArray 41) = U1 := ⟨_, rfl⟩
  obtain ⟨m, hm⟩ : ∃ m, U0.heap.size = m := ⟨_, rfl⟩
  have G1 : Hid (Gr U0 U1) := by show Gr _ _; rw [← hU1]; exact (Gr.refl U0).alloc _
  have H1 : Hid (U1.heap[m]? = some (.cells (cttC k).toArray 41 (0, 0))) := by show _ = _; rw [← hU1]; exact heap_new _ _ _ hm.symm
  have HJ := Lib.hid (judgeC x a r y U1 (hR.gr (HG.out.trans G1.out)) (hT.b.k.gr (HG.out.trans G1.out)) hy)
  have HT := Lib.hid hT
  have b75 : oneB (cttC k) = true := by rw [← hk]; exact ctK_one _ _ _ _ _
  have l75 := cttC_length k
  have e1 := el_len k y true
  have e2 := el_one k b75 y true
  have k1 : bC k.author = bC a := by rw [← hk]; rfl
  have k7 : k.number = 0 := by rw [← hk]; rfl
  have k8 : pubC k.height k.root = pubC 1 r := by rw [← hk]; rfl
  have k9 : k.leaf = 0 := by rw [← hk]; rfl
  have f := el_facts H0.out
  have f0 := f.c
  have f1 := f.z
  have f2 := f.h0
  have f3 := f.r0
  have h := ct_facts H1.out
  have p0 := h.au0
  have p1 := h.au1
  rw [k1] at p1
  have p2 := h.number
  rw [k7] at p2
  have p3 := h.pu0
  have p4 := h.pu1
  rw [k8] at p4
  have p5 := h.leaf
  rw [k9] at p5
  have p6 := h.z
  have f' := el_facts ((G1.out.block (lt_of_heap H0.out)).trans H0.out)
  have q0 := f'.h1
  have q1 := f'.r1
  have q2 := f'.z
  have B3 := bC32_len y
  have B4 := bC32_one y
  have B5 := pubC_one 1 r
  have B6 := pubC_length 1 r
  have B7 := bC16_len a
  have B8 := bC16_one a
  rw [hk]
  clear f f' h hR hT hy hk
  go_enter Tryz.func21, Tryz.ntmps21
  go_wp2_with (go_at_call 32; refine HJ.out.mono ?_; rintro e w2 ⟨rfl, g2⟩; have G2 := Lib.hid ((HG.out.trans G1.out).trans g2); have j0 := (HT.out.gr G2.out).j 0 _ rfl; have j1 := World.block_lt_of_cell? _ _ j0)
  go_ret
  exact ⟨rfl, G2.out⟩
set_option maxRecDepth 100000 in
set_option maxHeartbeats 1000000 in
theorem statusC (a r : V16) (s : ByteArray) (g c : Nat) (hok : Ok a r s c) (E : Nat → V16) (pv : Value) (L : V16) (x : Nat) (w : World) (hT : VTabs w) (hGs : GsAt w g) (hp : Nds w pv [L]) (hR : RingAt w x) (hy : half (1 :: r.toList) = a) (z : Int) (hz : (if rootV (half (formL a r s)) ⟨0, E, [L]⟩ = r then 0 else 3) = z) :
    Calls Tryz.prog 9 #[.agg (snC (ctK a r s g c) (sgC 0 E pv)).toArray, .pointer (some ⟨x, 0, none⟩)] w fun e w' => e = .returned (.int .i64 z) ∧ Gr w w' := by
  obtain ⟨n, hn⟩ : ∃ n, w.heap.size = n := ⟨_, rfl⟩
  obtain ⟨U0, hU⟩ : ∃ U0, w.alloc (.cells (snC (ctK a r s g c) (sgC 0 E pv)).toArray 50) = U0 := ⟨_, rfl⟩
  have HG : Hid (Gr w U0) := by show Gr _ _; rw [← hU]; exact (Gr.refl w).alloc _
  have HX : Hid (∃ V : List Value, V.length = 108 ∧ oneB V = true ∧ (Calls Tryz.prog 20 #[.agg (snC (ctK a r s g c) (sgC 0 E pv)).toArray] U0 fun e w' => e = .returned (.agg V.toArray) ∧ Gr U0 w') ∧ ∀ W, Gr U0 W → Calls Tryz.prog 21 #[.agg V.toArray, .pointer (some ⟨x, 0, none⟩)] W fun e w' => e = .returned (.int .i64 z) ∧ Gr W w') := by
    by_cases h : rootV (half (formL a r s)) ⟨0, E, [L]⟩ = r
    · rw [if_pos h] at hz
      subst hz
      have e1 := examGood a r s g c hok E pv L U0 (hT.b.gr HG.out) (hGs.gr HG.out) (hp.gr HG.out) h
      have e2 := fun W (hW : Gr U0 W) => statGood a r s g c (idV (formL a r s)) x W (hT.gr (HG.out.trans hW)) (hR.gr (HG.out.trans hW)) hy
      have e3 := el_len (ctK a r s g c) (idV (formL a r s)) true
      have e4 := el_one (ctK a r s g c) (ctK_one _ _ _ _ _) (idV (formL a r s)) true
      generalize elC (ctK a r s g c) (idV (formL a r s)) true = V at *
      exact ⟨V, e3, e4, e1, e2⟩
    · rw [if_neg h] at hz
      subst hz
      have e1 := examBad a r s g c hok E pv L U0 (hT.b.gr HG.out) (hGs.gr HG.out) (hp.gr HG.out) h
      have e2 := fun W (hW : Gr U0 W) => statBad ctZ ctZ_one zId (some ⟨x, 0, none⟩) W
      have e3 := el_len ctZ zId false
      have e4 := el_one ctZ ctZ_one zId false
      generalize elC ctZ zId false = V at *
      exact ⟨V, e3, e4, e1, e2⟩
  obtain ⟨ap, cp, hpe⟩ := hp.shape
  replace hpe : pv = .slice ap 1 cp := hpe
  have hS1 : oneB (snC (ctK a r s g c) (sgC 0 E pv)) = true := by rw [hpe]; unfold snC; rw [oneB_append, ctK_one, sgC_one]; rfl
  have hSl := sn_len (ctK a r s g c) 0 E pv
  obtain ⟨S, hS⟩ : ∃ S, snC (ctK a r s g c) (sgC 0 E pv) = S := ⟨_, rfl⟩
  rw [hS] at hS1 hSl HX hU ⊢
  obtain ⟨V, v1, v2, h1, h2⟩ := HX.out
  have H1 := Lib.hid h1
  have H2 := Lib.hid h2
  have H0 : U0.heap[n]? = some (.cells S.toArray 50 (0, 0)) := by rw [← hU]; exact heap_new _ _ _ hn.symm
  have r0 := hasRow_block H0 0 637 (by rw [hSl]; decide)
  have r1 := (rowAt_block H0 0 637 (by rw [hSl]; decide)).trans (rowOf_all _ _ hSl)
  have r2 := lt_of_heap H0
  clear h1 h2 H0 HX hp hpe hS hok hT hGs hR hy hz
  go_enter Tryz.func9, Tryz.ntmps9
  go_wp2_with (first
    | (go_at_call 20; refine H1.out.mono ?_; rintro e w1 ⟨rfl, g1⟩)
    | (go_at_call 21; refine (H2.out w1 g1).mono ?_; rintro e w2 ⟨rfl, g2⟩))
  go_ret
  exact ⟨rfl, HG.out.trans (g1.trans g2)⟩
end Go.Proofs.YteknmbijodbfoaaGreatDoor

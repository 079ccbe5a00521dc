/- keyring.New, Chain, Key, Judge over an empty keyring. -/
import Derived.Test.YteknmbijodbfoaaGreatDoorVBlt
namespace Go.Proofs.YteknmbijodbfoaaGreatDoor
open Go.RowKit

theorem list16 (l : List UInt8) (h : l.length = 16) : ∃ x0 x1 x2 x3 x4 x5 x6 x7 x8 x9 x10 x11 x12 x13 x14 x15, l = [x0, x1, x2, x3, x4, x5, x6, x7, x8, x9, x10, x11, x12, x13, x14, x15] := by
  refine ⟨l[0], l[1], l[2], l[3], l[4], l[5], l[6], l[7], l[8], l[9], l[10], l[11], l[12], l[13], l[14], l[15], ?_⟩
  apply List.ext_getElem
  · simp [h]
  · intro i h1 h2
    rw [h] at h1
    have : i = 0 ∨ i = 1 ∨ i = 2 ∨ i = 3 ∨ i = 4 ∨ i = 5 ∨ i = 6 ∨ i = 7 ∨ i = 8 ∨ i = 9 ∨ i = 10 ∨ i = 11 ∨ i = 12 ∨ i = 13 ∨ i = 14 ∨ i = 15 := by omega
    rcases this with rfl | rfl | rfl | rfl | rfl | rfl | rfl | rfl | rfl | rfl | rfl | rfl | rfl | rfl | rfl | rfl <;> rfl
theorem checkSlot0 (x0 x1 x2 x3 x4 x5 x6 x7 x8 x9 x10 x11 x12 x13 x14 x15 : UInt8) (n : Int) (W : World) : (Instr.checkKey true 10000 196 (.agg (([x0, x1, x2, x3, x4, x5, x6, x7, x8, x9, x10, x11, x12, x13, x14, x15].map cU) ++ [Value.int .i64 n]).toArray)).run Tryz.prog W = .ok () W := by kernel_rfl
set_option maxRecDepth 100000 in
theorem checkSlot (a : V16) (n : Int) (W : World) : (Instr.checkKey true 10000 196 (.agg (slotC a n).toArray)).run Tryz.prog W = .ok () W := by
  obtain ⟨x0, x1, x2, x3, x4, x5, x6, x7, x8, x9, x10, x11, x12, x13, x14, x15, h⟩ := list16 a.toList (by simp)
  have e : bC a = [x0, x1, x2, x3, x4, x5, x6, x7, x8, x9, x10, x11, x12, x13, x14, x15].map cU := by
    show a.toList.map _ = _; rw [h]; rfl
  unfold slotC; rw [e]
  exact checkSlot0 x0 x1 x2 x3 x4 x5 x6 x7 x8 x9 x10 x11 x12 x13 x14 x15 n W
theorem zeroRolls (W : World) : (zeroValue 194).run Tryz.prog W = .ok (.slice none 0 0) W := by kernel_rfl
/-- A keyring's slot is not there: the map is empty. -/
theorem lookSlot {W : World} {r : Nat} {m : Nat} (hb : W.heap[r]? = some (.map #[] m)) (a : V16) (n : Int) : (Instr.lookup 71 (.map (some r)) (.agg (slotC a n).toArray) false).run Tryz.prog W = .ok (.slice none 0 0) W := by
  have hm := Tryz.underlying71
  have hf : (Instr.findKey 196 (.agg (slotC a n).toArray) []).run Tryz.prog W = .ok none W := by
    simp only [Instr.findKey, Sem.run_bind, run_underlying Tryz.underlying196, Result.andThen_ok, Instr.findNow, Sem.run_pure]
  simp only [Instr.lookup, Sem.run_bind, run_underlying hm, Result.andThen_ok, MapKept.run_getObj_map hb, Sem.run_pure, Array.isEmpty_empty, checkSlot a n W, hf, zeroRolls W]
  rfl
/-- An empty keyring. -/
structure RingAt (W : World) (x : Nat) : Prop where
  h : ∃ b1 b2, W.heap[x]? = some (.cells #[.map (some b1), .map (some b2)] 73 (0, 0)) ∧ W.heap[b2]? = some (.map #[] 0)
theorem RingAt.gr {W W' : World} {x : Nat} (h : RingAt W x) (hg : Gr W W') : RingAt W' x := by
  obtain ⟨b1, b2, h1, h2⟩ := h.h
  have q1 := (Array.getElem?_eq_some_iff.1 h1).1
  have q2 := (Array.getElem?_eq_some_iff.1 h2).1
  exact ⟨b1, b2, (hg.block q1).trans h1, (hg.block q2).trans h2⟩
set_option maxRecDepth 100000 in
set_option maxHeartbeats 2000000 in
theorem ringNewC (w : World) : Calls Tryz.prog 10 #[] w fun e w' => ∃ x, e = .returned (.pointer (some ⟨x, 0, none⟩)) ∧ RingAt w' x ∧ Gr w w' := by
  have hmk1 : ∀ w, (Instr.makeMap 70 none).run Tryz.prog w = .ok (.map (some w.heap.size)) (w.alloc (.map #[] 0)) := fun w => by simp [Instr.makeMap]
  have hmk2 : ∀ w, (Instr.makeMap 71 none).run Tryz.prog w = .ok (.map (some w.heap.size)) (w.alloc (.map #[] 0)) := fun w => by simp [Instr.makeMap]
  go_enter Tryz.func10, Tryz.ntmps10
  go_wp2_with fail
  go_ret
  have g3 := (((Gr.refl w).alloc (.map #[] 0)).alloc (.map #[] 0)).alloc (.cells #[.map (some w.heap.size), .map (some (w.heap.size + 1))] 73)
  refine ⟨_, rfl, ⟨_, _, heap_new _ _ _ (by simp), ?_⟩, g3⟩
  exact (((Gr.refl _).alloc _).block (by simp)).trans (heap_new _ _ _ (by simp))
set_option maxRecDepth 100000 in
set_option maxHeartbeats 2000000 in
theorem smallPubC (f : Value) (w : World) : Calls Tryz.prog 108 #[.slice none 0 0, f] w fun e w' => e = .returned (.tuple #[.agg (pubC 0 zAut).toArray, .bool false]) ∧ Gr w w' := by
  obtain ⟨n, hn⟩ : ∃ n, w.heap.size = n := ⟨_, rfl⟩
  have HN := Lib.hid hn
  obtain ⟨U0, hU⟩ : ∃ U0, (w.alloc (.cells (pubC 0 zAut).toArray 31)).alloc (.cells (pubC 0 zAut).toArray 31) = U0 := ⟨_, rfl⟩
  have H0 : Hid (U0.heap[n]? = some (.cells (pubC 0 zAut).toArray 31 (0, 0))) := by
    show _ = _; rw [← hU]
    exact (((Gr.refl _).alloc _).block (by simp; omega)).trans (heap_new _ _ _ (by omega))
  have H1 : Hid (U0.heap[n + 1]? = some (.cells (pubC 0 zAut).toArray 31 (0, 0))) := by
    show _ = _; rw [← hU]
    exact heap_new _ _ _ (by simp; omega)
  have HG : Hid (Gr w U0) := by show Gr _ _; rw [← hU]; exact ((Gr.refl w).alloc _).alloc _
  have z3 := pubC_one 0 zAut
  have z4 := pubC_length 0 zAut
  replace hU := Lib.hid hU
  go_enter Tryz.func108, Tryz.ntmps108
  go_wp2_with fail
  refine wp_loop_rounds 1 ?_
  rw [rounds_succ]
  have A0 := heap_new w (.cells (pubC 0 zAut).toArray 31) n hn.symm
  have f0 := hasRow_block A0 0 17 (by rw [pubC_length]; decide)
  have f1 := freeRow_block A0 0 17
  have f2 := lt_of_heap A0
  have A1 : ((w.alloc (.cells (pubC 0 zAut).toArray 31)).alloc (.cells (pubC 0 zAut).toArray 31)).heap[n]? = some (.cells (pubC 0 zAut).toArray 31 (0, 0)) := by rw [hU.out]; exact H0.out
  have f3 := hasRow_block A1 0 17 (by rw [pubC_length]; decide)
  have f4 := freeRow_block A1 0 17
  have f5 := lt_of_heap A1
  clear A0 A1
  go_wp2_with fail
  rw [hU.out]
  have HE : Hid ((U0.setCells n 0 (pubC 0 zAut)).heap[n]? = some (.cells (pubC 0 zAut).toArray 31 (0, 0))) := sets_whole H0.out rfl
  have HG7 := Lib.hid (HG.out.setsOwn (b := n) (by have := HN.out; omega) (pubC 0 zAut) 0)
  refine bodyPost_ret (results_cellT rfl _ _ n _ _ _ _ rfl HE.out Tryz.underlying31 rfl (sizePub _ _)) rfl ?_
  exact ⟨rfl, HG7.out⟩
set_option maxRecDepth 100000 in
set_option maxHeartbeats 4000000 in
/-- An empty keyring has no chain. -/
theorem chainC (x : Nat) (a : V16) (w : World) (hR : RingAt w x) : Calls Tryz.prog 85 #[.pointer (some ⟨x, 0, none⟩), .agg (bC a).toArray] w fun e w' => e = .returned (.slice none 0 0) ∧ Gr w w' := by
  obtain ⟨n, hn⟩ : ∃ n, w.heap.size = n := ⟨_, rfl⟩
  have HN := Lib.hid hn
  obtain ⟨U0, hU⟩ : ∃ U0, w.alloc (.cells (bC a).toArray 35) = U0 := ⟨_, rfl⟩
  have HG : Hid (Gr w U0) := by show Gr _ _; rw [← hU]; exact (Gr.refl w).alloc _
  have H0 : Hid (U0.heap[n]? = some (.cells (bC a).toArray 35 (0, 0))) := by show _ = _; rw [← hU]; exact heap_new _ _ _ hn.symm
  obtain ⟨b1, b2, h1, h2⟩ := (hR.gr HG.out).h
  have c1 := cell_block h1 1
  have cx := lt_of_heap h1
  have r0 := hasRow_block H0.out 0 16 (by rw [bC16_len]; decide)
  have r1 := (rowAt_block H0.out 0 16 (by rw [bC16_len]; decide)).trans (rowOf_all _ _ (bC16_len a))
  have r2 := lt_of_heap H0.out
  have hl := lookSlot h2 a 0
  have hSM := Lib.hid smallPubC
  have B1 := bC16_len a
  have B2 := bC16_one a
  go_enter Tryz.func85, Tryz.ntmps85
  go_wp2_with fail
  have D0 := (Gr.refl U0).drew
  have hl1 := lookSlot (W := U0.drew) ((D0.block (lt_of_heap h2)).trans h2) a 0
  have HH1 := Lib.hid h1
  have HH2 := Lib.hid h2
  clear h1 h2
  go_big_region
  have G1 := Lib.hid (HG.out.trans D0)
  clear hl hl1 c1 cx r0 r1 r2 D0
  generalize U0.drew = U1 at *
  have z3 := pubC_one 0 zAut
  have z4 := pubC_length 0 zAut
  go_wp2_with fail
  refine wp_loop_rounds 1 ?_
  rw [rounds_succ]
  go_wp2_with (go_at_call 108; refine (hSM.out _ U1).mono ?_; rintro e w2 ⟨rfl, g2⟩)
  refine wp_loop_rounds 1 ?_
  rw [rounds_succ]
  go_wp2_with fail
  go_ret
  exact ⟨rfl, (G1.out.trans g2).alloc _⟩
set_option maxRecDepth 100000 in
set_option maxHeartbeats 4000000 in
theorem keyC (x : Nat) (a : V16) (w : World) (hR : RingAt w x) : Calls Tryz.prog 57 #[.pointer (some ⟨x, 0, none⟩), .agg (bC a).toArray, .int .i64 0] w fun e w' => e = .returned (.tuple #[.agg keyZ.toArray, .bool false]) ∧ Gr w w' := by
  obtain ⟨n, hn⟩ : ∃ n, w.heap.size = n := ⟨_, rfl⟩
  have HN := Lib.hid hn
  obtain ⟨U0, hU⟩ : ∃ U0, (w.alloc (.cells (bC a).toArray 35)).alloc (.cells keyZ.toArray 127) = U0 := ⟨_, rfl⟩
  have HG : Hid (Gr w U0) := by show Gr _ _; rw [← hU]; exact ((Gr.refl w).alloc _).alloc _
  have H1 : Hid (U0.heap[n + 1]? = some (.cells keyZ.toArray 127 (0, 0))) := by
    show _ = _; rw [← hU]; exact heap_new _ _ _ (by simp; omega)
  have HC := Lib.hid (chainC x a U0 (hR.gr HG.out))
  have A0 := heap_new w (.cells (bC a).toArray 35) n hn.symm
  have f0 := hasRow_block A0 0 16 (by rw [bC16_len]; decide)
  have f1 := (rowAt_block A0 0 16 (by rw [bC16_len]; decide)).trans (rowOf_all _ _ (bC16_len a))
  have f2 := lt_of_heap A0
  have B1 := bC16_len a
  have B2 := bC16_one a
  have k1 := key_len
  have k2 : oneB keyZ = true := by decide +kernel
  replace hU := Lib.hid hU
  clear A0 hR
  go_enter Tryz.func57, Tryz.ntmps57
  go_wp2_with fail
  rw [hU.out]
  refine HC.out.mono ?_
  rintro e w1 ⟨rfl, g1⟩
  have K1 := Lib.hid ((g1.block (lt_of_heap H1.out)).trans H1.out)
  have G1 := Lib.hid g1
  clear f0 f1 f2 g1
  have z0 := hasRow_block K1.out 0 51 (by rw [k1]; decide)
  have z1 := freeRow_block K1.out 0 51
  have z2 := lt_of_heap K1.out
  go_wp2_with fail
  have HE : Hid ((w1.setCells (n + 1) 0 keyZ).heap[n + 1]? = some (.cells keyZ.toArray 127 (0, 0))) := sets_whole K1.out rfl
  have HG7 := Lib.hid ((HG.out.trans G1.out).setsOwn (b := n + 1) (by have := HN.out; omega) keyZ 0)
  refine bodyPost_ret (results_cellT rfl _ _ (n + 1) _ _ _ _ rfl HE.out Tryz.underlying127 rfl (by rw [List.size_toArray, k1]; kernel_rfl)) rfl ?_
  exact ⟨rfl, HG7.out⟩
set_option maxRecDepth 100000 in
set_option maxHeartbeats 4000000 in
theorem isFirstC (a r : V16) (w : World) (hK : Kt w) : Calls Tryz.prog 58 #[.agg (bC a).toArray, .agg (pubC 1 r).toArray] w fun e w' => e = .returned (.bool (half (1 :: r.toList) == a)) ∧ Gr w w' := by
  obtain ⟨n, hn⟩ : ∃ n, w.heap.size = n := ⟨_, rfl⟩
  have HN := Lib.hid hn
  obtain ⟨U0, hU⟩ : ∃ U0, (w.alloc (.cells (bC a).toArray 35)).alloc (.cells (pubC 1 r).toArray 31) = U0 := ⟨_, rfl⟩
  have HG : Hid (Gr w U0) := by show Gr _ _; rw [← hU]; exact ((Gr.refl w).alloc _).alloc _
  have H0 : Hid (U0.heap[n]? = some (.cells (bC a).toArray 35 (0, 0))) := by
    show _ = _; rw [← hU]
    exact (((Gr.refl _).alloc _).block (by simp; omega)).trans (heap_new _ _ _ (by omega))
  have HO := Lib.hid (ofC r U0 (hK.gr HG.out))
  obtain ⟨y, hy⟩ : ∃ y, half (1 :: r.toList) = y := ⟨_, rfl⟩
  rw [hy] at HO ⊢
  have B1 := bC16_len a
  have B2 := bC16_one a
  have B3 := bC16_len y
  have B4 := bC16_one y
  have B5 := pubC_one 1 r
  have B6 := pubC_length 1 r
  replace hU := Lib.hid hU
  clear hK hy
  go_enter Tryz.func58, Tryz.ntmps58
  go_wp2_with fail
  rw [hU.out]
  refine HO.out.mono ?_
  rintro e w1 ⟨rfl, g1⟩
  have G1 := Lib.hid (g1.alloc (.cells (bC y).toArray 35))
  have K1 := Lib.hid ((G1.out.block (lt_of_heap H0.out)).trans H0.out)
  clear g1
  have r0 := hasRow_block K1.out 0 16 (by rw [bC16_len]; decide)
  have r1 := (rowAt_block K1.out 0 16 (by rw [bC16_len]; decide)).trans (rowOf_all _ _ (bC16_len a))
  have r2 := lt_of_heap K1.out
  go_wp2_with fail
  go_ret
  exact ⟨rfl, HG.out.trans G1.out⟩
set_option maxRecDepth 100000 in
set_option maxHeartbeats 4000000 in
theorem judgeC (x : Nat) (a r : V16) (id : Vector UInt8 32) (w : World) (hR : RingAt w x) (hK : Kt w) (hy : half (1 :: r.toList) = a) : Calls Tryz.prog 32 #[.pointer (some ⟨x, 0, none⟩), .agg (bC a).toArray, .int .i64 0, .agg (pubC 1 r).toArray, .int .i64 0, .agg (bC id).toArray] w fun e w' => e = .returned (.int .i64 0) ∧ Gr w w' := by
  obtain ⟨n, hn⟩ : ∃ n, w.heap.size = n := ⟨_, rfl⟩
  have HN := Lib.hid hn
  obtain ⟨U0, hU⟩ : ∃ U0, ((w.alloc (.cells (bC a).toArray 35)).alloc (.cells (pubC 1 r).toArray 31)).alloc (.cells (bC id).toArray 39) = U0 := ⟨_, rfl⟩
  have HG : Hid (Gr w U0) := by show Gr _ _; rw [← hU]; exact (((Gr.refl w).alloc _).alloc _).alloc _
  have H0 : Hid (U0.heap[n]? = some (.cells (bC a).toArray 35 (0, 0))) := by
    show _ = _; rw [← hU]
    exact ((((Gr.refl _).alloc _).alloc _).block (by simp; omega)).trans (heap_new _ _ _ (by omega))
  have H1 : Hid (U0.heap[n + 1]? = some (.cells (pubC 1 r).toArray 31 (0, 0))) := by
    show _ = _; rw [← hU]
    exact (((Gr.refl _).alloc _).block (by simp; omega)).trans (heap_new _ _ _ (by simp; omega))
  have HKY := Lib.hid (keyC x a U0 (hR.gr HG.out))
  have HIF : Hid (∀ W, Kt W → Calls Tryz.prog 58 #[.agg (bC a).toArray, .agg (pubC 1 r).toArray] W fun e w' => e = .returned (.bool true) ∧ Gr W w') := fun W h => by
    have := isFirstC a r W h
    rw [hy] at this
    simpa using this
  have HK := Lib.hid (hK.gr HG.out)
  have B1 := bC16_len a
  have B2 := bC16_one a
  have B3 := bC32_len id
  have B4 := bC32_one id
  have B5 := pubC_one 1 r
  have B6 := pubC_length 1 r
  have B7 := key_len
  have B8 : oneB keyZ = true := by decide +kernel
  have A0 := heap_new w (.cells (bC a).toArray 35) n hn.symm
  have f0 := hasRow_block A0 0 16 (by rw [bC16_len]; decide)
  have f1 := (rowAt_block A0 0 16 (by rw [bC16_len]; decide)).trans (rowOf_all _ _ (bC16_len a))
  have f2 := lt_of_heap A0
  replace hU := Lib.hid hU
  clear hK hy hR A0
  go_enter Tryz.func32, Tryz.ntmps32
  go_wp2_with fail
  rw [hU.out]
  refine HKY.out.mono ?_
  rintro e w1 ⟨rfl, g1⟩
  have G1 := Lib.hid (g1.alloc (.cells keyZ.toArray 127))
  have K0 := Lib.hid ((G1.out.block (lt_of_heap H0.out)).trans H0.out)
  have K1 := Lib.hid ((G1.out.block (lt_of_heap H1.out)).trans H1.out)
  clear g1 f0 f1 f2
  have r0 := hasRow_block K0.out 0 16 (by rw [bC16_len]; decide)
  have r1 := (rowAt_block K0.out 0 16 (by rw [bC16_len]; decide)).trans (rowOf_all _ _ (bC16_len a))
  have r2 := lt_of_heap K0.out
  have r3 := hasRow_block K1.out 0 17 (by rw [pubC_length]; decide)
  have r4 := (rowAt_block K1.out 0 17 (by rw [pubC_length]; decide)).trans (rowOf_all _ _ (pubC_length 1 r))
  have r5 := lt_of_heap K1.out
  go_wp2_with fail
  refine (HIF.out _ (HK.out.gr G1.out)).mono ?_
  rintro e w2 ⟨rfl, g2⟩
  go_wp2_with fail
  go_ret
  exact ⟨rfl, HG.out.trans (G1.out.trans g2)⟩
end Go.Proofs.YteknmbijodbfoaaGreatDoor

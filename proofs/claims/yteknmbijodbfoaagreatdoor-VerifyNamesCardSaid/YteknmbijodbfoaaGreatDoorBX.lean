/- signer: Secret.Check, leaves, collect at height 1. signer.Signature as cells. signer.Sign at height 1. signer.Sign at height 1: the call. signer: Signature.Check, public, nodes. signer.Root, Verify. signer.Verify. -/
import Derived.Test.YteknmbijodbfoaaGreatDoorBM
import Derived.Deep.RegionHeld3
namespace Go.Proofs.YteknmbijodbfoaaGreatDoor
open Go.RowKit

theorem pubC_one (h : Int) (r : Aut) : oneB (pubC h r) = true := by
  show (oneB (.int .i64 h :: bC r)) = true
  rw [oneB_cons, bC16_one]; rfl
theorem sizeAu (x : V16) : (Tryz.prog.info? 35).map (fun x => x.size) = some (bC x).toArray.size := by
  rw [List.size_toArray, bC16_len]; kernel_rfl
theorem sizePub (h : Int) (r : Aut) : (Tryz.prog.info? 31).map (fun x => x.size) = some (pubC h r).toArray.size := by
  rw [List.size_toArray, pubC_length]; kernel_rfl
def secC (seed : Vector UInt8 32) (h : Int) : List Value := bC seed ++ [.int .i64 h]
theorem secC_len (seed : Vector UInt8 32) (h : Int) : (secC seed h).length = 33 := by unfold secC; rw [List.length_append, bC32_len]; rfl
theorem secC_one (seed : Vector UInt8 32) (h : Int) : oneB (secC seed h) = true := by unfold secC; simp only [oneB_append, bC32_one]; rfl
theorem secC_seed (seed : Vector UInt8 32) (h : Int) : rowOf (secC seed h) 0 32 = bC seed := rowOf_app_l _ _ _ (bC32_len _)
theorem secC_h (seed : Vector UInt8 32) (h : Int) : (secC seed h)[32]? = some (.int .i64 h) := by
  unfold secC; rw [List.getElem?_append_right (by rw [bC32_len]; exact Nat.le_refl _), bC32_len]; rfl
@[go_sem] theorem aggSec : aggB Tryz.prog 28 = true := by kernel_rfl
@[go_sem] theorem cellsSec : Tryz.prog.cellsOf 28 = 33 := by kernel_rfl
/-- A secret key's block. -/
structure SecAt (W : World) (b : Nat) (seed : Vector UInt8 32) (h : Int) : Prop where
  b : W.heap[b]? = some (.cells (secC seed h).toArray 28 (0, 0))
theorem SecAt.gr {W W' : World} {b : Nat} {seed : Vector UInt8 32} {h : Int} (hs : SecAt W b seed h) (hg : Gr W W') : SecAt W' b seed h := ⟨(hg.block (lt_of_heap hs.b)).trans hs.b⟩
structure SecFacts (W : World) (b : Nat) (seed : Vector UInt8 32) (h : Int) : Prop where
  r0 : hasRow W ⟨b, 0, none⟩ 32 = true
  r1 : rowAt W ⟨b, 0, none⟩ 32 = bC seed
  c : W.cell? ⟨b, 32, none⟩ = some (.int .i64 h)
  a0 : hasRow W ⟨b, 0, none⟩ 33 = true
  a1 : rowAt W ⟨b, 0, none⟩ 33 = secC seed h
  z : b < W.heap.size
theorem SecAt.facts {W : World} {b : Nat} {seed : Vector UInt8 32} {h : Int} (hs : SecAt W b seed h) : SecFacts W b seed h :=
  ⟨hasRow_block hs.b 0 32 (by rw [secC_len]; decide), (rowAt_block hs.b 0 32 (by rw [secC_len]; decide)).trans (secC_seed _ _), (cell_block hs.b 32).trans (secC_h _ _), hasRow_block hs.b 0 33 (by rw [secC_len]; decide), (rowAt_block hs.b 0 33 (by rw [secC_len]; decide)).trans (rowOf_all _ _ (secC_len _ _)), lt_of_heap hs.b⟩
set_option maxRecDepth 100000 in
set_option maxHeartbeats 2000000 in
theorem secCheckC (seed : Vector UInt8 32) (w : World) : Calls Tryz.prog 11 #[.agg (secC seed 1).toArray] w fun e w' => e = .returned (.int .i64 0) ∧ Gr w w' := by
  obtain ⟨n, hn⟩ : ∃ n, w.heap.size = n := ⟨_, rfl⟩
  have HS : Hid (SecAt (w.alloc (.cells (secC seed 1).toArray 28)) n seed 1) := ⟨heap_new _ _ _ hn.symm⟩
  have HG : Hid (Gr w (w.alloc (.cells (secC seed 1).toArray 28))) := (Gr.refl w).alloc _
  obtain ⟨r0, r1, c, a0, a1, z⟩ := HS.out.facts
  have b1 := secC_len seed 1
  have b2 := secC_one seed 1
  have HH : Hid (∀ W, Calls Tryz.prog 22 #[.int .i64 1] W fun e w' => e = .returned (.int .i64 0) ∧ W = w') := fun W => checkHeightC 1 W
  go_enter Tryz.func11, Tryz.ntmps11
  go_wp2_with (go_at_call 22; refine (HH.out _).mono ?_; rintro e w' ⟨rfl, rfl⟩)
  go_ret
  exact ⟨rfl, HG.out⟩
def lfV (seed : Vector UInt8 32) (leaf : Nat) : V16 := leafV leaf (pubV seed leaf).toList
set_option maxRecDepth 100000 in
set_option maxHeartbeats 2000000 in
theorem leaf1C (seed : Vector UInt8 32) (b leaf : Nat) (hl : leaf ≤ 65535) (w : World) (hK : Kt w) (hS : SecAt w b seed 1) : Calls Tryz.prog 25 #[.int .i64 (leaf : Int), .pointer (some ⟨b, 0, none⟩)] w fun e w' => e = .returned (.agg (bC (lfV seed leaf)).toArray) ∧ Gr w w' := by
  obtain ⟨n, hn⟩ : ∃ n, w.heap.size = n := ⟨_, rfl⟩
  have HN := Lib.hid hn
  have HZ : Hid ((w.alloc (.cells (bC zAut).toArray 75)).heap[n]? = some (.cells (bC zAut).toArray 75 (0, 0))) := heap_new _ _ _ hn.symm
  have hG : Gr w (w.alloc (.cells (bC zAut).toArray 75)) := (Gr.refl w).alloc _
  have HG := Lib.hid hG
  obtain ⟨r0, r1, c, a0, a1, z⟩ := (hS.gr hG).facts
  have HK := Lib.hid hK
  have HP := Lib.hid (otPublicC seed leaf hl _ (hK.gr hG))
  obtain ⟨p, hp⟩ : ∃ p, pubV seed leaf = p := ⟨_, rfl⟩
  have HL : Hid (leafV leaf p.toList = lfV seed leaf) := by show _ = _; rw [← hp]; rfl
  rw [hp] at HP
  have b1 := bC16_len p
  have b2 := bC16_one p
  have b3 := bC32_len seed
  have b4 := bC32_one seed
  clear hK hS hG hp
  go_enter Tryz.func25, Tryz.ntmps25
  go_wp2_with (go_at_call 26; refine HP.out.mono ?_; clear HP; rintro e w1 ⟨rfl, hg1⟩)
  have hgA := hg1.alloc (.cells (bC p).toArray 29)
  have hby : BytG (w1.alloc (.cells (bC p).toArray 29)) (.slice (some ⟨w1.heap.size, 0, none⟩) 16 16) p.toList := ⟨some ⟨w1.heap.size, 0, none⟩, 16, by simp, by simp, .inr ⟨w1.heap.size, 0, rfl, ByAt.vec (heap_alloc_new w1 _)⟩⟩
  have HC := leafC leaf (by omega) _ p.toList (by simp) _ (HK.out.gr (HG.out.trans hgA)) hby
  rw [HL.out] at HC
  refine HC.mono ?_
  rintro e w2 ⟨rfl, hg2⟩
  have HG2 := Lib.hid ((HG.out.trans hgA).trans hg2)
  have HZ2 := Lib.hid (((hgA.trans hg2).block (lt_of_heap HZ.out)).trans HZ.out)
  obtain ⟨y, hy⟩ : ∃ y, lfV seed leaf = y := ⟨_, rfl⟩
  rw [hy]
  have z0 := hasRow_block HZ2.out 0 16 (by simp [bC16_len])
  have z1 := freeRow_block HZ2.out 0 16
  have z2 := lt_of_heap HZ2.out
  have b5 := bC16_len y
  have b6 := bC16_one y
  clear HC hg2 hgA hg1 hby
  go_wp2_with fail
  have HE : Hid ((w2.setCells n 0 (bC y)).heap[n]? = some (.cells (bC y).toArray 75 (0, 0))) := sets_whole HZ2.out (by simp [bC16_len])
  have HG7 := Lib.hid (HG2.out.setsOwn (b := n) (by have := HN.out; omega) (bC y) 0)
  refine bodyPost_ret (results_cell_row rfl _ _ n _ _ _ _ rfl HE.out Tryz.underlying75 rfl (sizeNode _)) rfl ?_
  exact ⟨by rw [hy], HG7.out⟩
set_option maxRecDepth 100000 in
set_option maxHeartbeats 2000000 in
theorem collectL (seed : Vector UInt8 32) (b : Nat) (w : World) (hK : Kt w) (hS : SecAt w b seed 1) : Calls Tryz.prog 24 #[.int .i64 1, .func (.func 25) #[] #[.pointer (some ⟨b, 0, none⟩)]] w fun e w' => ∃ v, e = .returned v ∧ OwnV 75 w' w.heap.size v [lfV seed 0, lfV seed 1] ∧ Gr w w' := by
  have eg : ∀ args w, (callFunc 25 args).run Tryz.prog w = .ok (.enter 25 args) w := enters_of Tryz.func25 (by kernel_rfl) rfl
  have H0 : Hid (∀ W, Gr w W → Calls Tryz.prog 25 #[.int .i64 0, .pointer (some ⟨b, 0, none⟩)] W fun e w' => e = .returned (.agg (bC (lfV seed 0)).toArray) ∧ Gr W w') := fun W hW => leaf1C seed b 0 (by decide) W (hK.gr hW) (hS.gr hW)
  have H1 : Hid (∀ W, Gr w W → Calls Tryz.prog 25 #[.int .i64 1, .pointer (some ⟨b, 0, none⟩)] W fun e w' => e = .returned (.agg (bC (lfV seed 1)).toArray) ∧ Gr W w') := fun W hW => leaf1C seed b 1 (by decide) W (hK.gr hW) (hS.gr hW)
  generalize lfV seed 0 = x at *
  generalize lfV seed 1 = y at *
  have b1 := bC16_len x
  have b2 := bC16_one x
  have b3 := bC16_len y
  have b4 := bC16_one y
  clear hK hS
  go_enter Tryz.func24, Tryz.ntmps24
  go_wp2_with fail
  refine wp_loop_rounds 3 ?_
  rw [rounds_succ]
  go_wp2_with (first
    | (go_at_call 25; refine (H0.out w (Gr.refl w)).mono ?_; rintro e w1 ⟨rfl, hg1⟩; have O8 : Hid (OwnV 75 (w1.alloc (.cells (bC x).toArray 75)) 0 (.slice (some ⟨w1.heap.size, 0, none⟩) 1 1) [x]) := OwnV.one (heap_alloc_new w1 _) (Nat.zero_le _); have z7 : w.heap.size ≤ (w1.alloc (.cells (bC x).toArray 75)).heap.size := Nat.le_trans hg1.size (by simp); have HG1 := Lib.hid (hg1.alloc (.cells (bC x).toArray 75)); clear hg1)
    | (at_builtin; refine wpList_append_v _ rfl _ _ 56 75 rfl Tryz.underlying56 infoNode w.heap.size (.slice none 0 0) [] (by simp [Act.eval]) (OwnV.nil _ _ _) (.slice (some ⟨w1.heap.size, 0, none⟩) 1 1) [x] (by simp [Act.eval]) O8.out.nds 1 rfl (by decide) z7 ?_; intro a3 n3 w3 ho3 hg3; have HG3 := Lib.hid (HG1.out.grown hg3 (fun k hk => by cases hk)); have HO3 : Hid (OwnV 75 w3 w.heap.size (.slice a3 1 n3) [x]) := ho3; clear hg3 ho3))
  rw [rounds_succ]
  go_wp2_with (first
    | (go_at_call 25; refine (H1.out w3 HG3.out).mono ?_; rintro e w4 ⟨rfl, hg4⟩; have P8 : Hid (OwnV 75 (w4.alloc (.cells (bC y).toArray 75)) 0 (.slice (some ⟨w4.heap.size, 0, none⟩) 1 1) [y]) := OwnV.one (heap_alloc_new w4 _) (Nat.zero_le _); have hg5 := hg4.alloc (.cells (bC y).toArray 75); have HG5 := Lib.hid (HG3.out.trans hg5); have y7 : w.heap.size ≤ (w4.alloc (.cells (bC y).toArray 75)).heap.size := HG5.out.size; have HO5 := Lib.hid (HO3.out.gr hg5); clear hg4 hg5)
    | (at_builtin; refine wpList_append_v _ rfl _ _ 56 75 rfl Tryz.underlying56 infoNode w.heap.size (.slice a3 1 n3) [x] (by simp [Act.eval]) HO5.out (.slice (some ⟨w4.heap.size, 0, none⟩) 1 1) [y] (by simp [Act.eval]) P8.out.nds 2 rfl (by decide) y7 ?_; intro a6 n6 w6 ho6 hg6; have HG6 := Lib.hid (HG5.out.grown hg6 (fun k hk => (HO5.out.own hk).1)); have HO6 : Hid (OwnV 75 w6 w.heap.size (.slice a6 2 n6) [x, y]) := ho6; clear hg6 ho6))
  rw [rounds_succ]
  go_wp2_with fail
  go_ret
  exact ⟨_, rfl, HO6.out, HG6.out⟩
set_option maxRecDepth 100000 in
set_option maxHeartbeats 2000000 in
theorem leavesC (seed : Vector UInt8 32) (w : World) (hK : Kt w) : Calls Tryz.prog 13 #[.agg (secC seed 1).toArray] w fun e w' => ∃ v, e = .returned v ∧ OwnV 75 w' w.heap.size v [lfV seed 0, lfV seed 1] ∧ Gr w w' := by
  obtain ⟨n, hn⟩ : ∃ n, w.heap.size = n := ⟨_, rfl⟩
  have HS : Hid (SecAt (w.alloc (.cells (secC seed 1).toArray 28)) n seed 1) := ⟨heap_new _ _ _ hn.symm⟩
  have HG : Hid (Gr w (w.alloc (.cells (secC seed 1).toArray 28))) := (Gr.refl w).alloc _
  have HC := Lib.hid (collectL seed n _ (hK.gr HG.out) HS.out)
  obtain ⟨r0, r1, c, a0, a1, z⟩ := HS.out.facts
  go_enter Tryz.func13, Tryz.ntmps13
  go_wp2_with (go_at_call 24; refine HC.out.mono ?_; rintro e w1 ⟨v, rfl, ho, hg1⟩)
  go_ret
  exact ⟨_, rfl, ho.base HG.out.size, HG.out.trans hg1⟩
set_option maxRecDepth 100000 in
set_option maxHeartbeats 2000000 in
theorem publicOfC (v : Value) (x y : V16) (w : World) (hK : Kt w) (hv : Nds w v [x, y]) : Calls Tryz.prog 12 #[.int .i64 1, v] w fun e w' => e = .returned (.tuple #[.agg (pubC 1 (joinV 1 x y)).toArray, .int .i64 0]) ∧ Gr w w' := by
  obtain ⟨n, hn⟩ : ∃ n, w.heap.size = n := ⟨_, rfl⟩
  have HN := Lib.hid hn
  have HZ : Hid ((w.alloc (.cells (pubC 0 zAut).toArray 31)).heap[n]? = some (.cells (pubC 0 zAut).toArray 31 (0, 0))) := heap_new _ _ _ hn.symm
  have hG : Gr w (w.alloc (.cells (pubC 0 zAut).toArray 31)) := (Gr.refl w).alloc _
  have HG := Lib.hid hG
  have HR := Lib.hid (root2 v x y _ (hK.gr hG) (hv.gr hG))
  obtain ⟨j, hj⟩ : ∃ j, joinV 1 x y = j := ⟨_, rfl⟩
  rw [hj] at HR
  rw [hj]
  have b1 := bC16_len j
  have b2 := bC16_one j
  clear hG hK hv hj
  go_enter Tryz.func12, Tryz.ntmps12
  go_wp2_with (go_at_call 23; refine HR.out.mono ?_; rintro e w1 ⟨rfl, hg1⟩; have HZ1 := Lib.hid (((hg1.alloc (.cells (bC j).toArray 75)).block (lt_of_heap HZ.out)).trans HZ.out); have HG1 := Lib.hid (HG.out.trans (hg1.alloc (.cells (bC j).toArray 75))); have hx9 := heap_alloc_new w1 (.cells (bC j).toArray 75); have y4 := hasRow_block hx9 0 16 (by simp [bC16_len]); have y5 := (rowAt_block hx9 0 16 (by simp [bC16_len])).trans (rowOf_all _ _ (bC16_len j)); have y6 := lt_of_heap hx9; have z0 := hasRow_block HZ1.out 0 17 (by rw [pubC_length]; decide); have z1 := freeRow_block HZ1.out 0 17; have z2 := lt_of_heap HZ1.out; have z3 := pubC_one 1 j; have z4 := pubC_length 1 j)
  have HE : Hid (((w1.alloc (.cells (bC j).toArray 75)).setCells n 0 (pubC 1 j)).heap[n]? = some (.cells (pubC 1 j).toArray 31 (0, 0))) := sets_whole HZ1.out (by rw [pubC_length, pubC_length])
  have HG7 := Lib.hid (HG1.out.setsOwn (b := n) (by have := HN.out; omega) (pubC 1 j) 0)
  refine bodyPost_ret (results_cellT rfl _ _ n _ _ _ _ rfl HE.out Tryz.underlying31 rfl (sizePub _ _)) rfl ?_
  exact ⟨rfl, HG7.out⟩
/-- The root of the secret key of height 1. -/
def rootS (seed : Vector UInt8 32) : V16 := joinV 1 (lfV seed 0) (lfV seed 1)
set_option maxRecDepth 100000 in
set_option maxHeartbeats 2000000 in
theorem secPublicC (seed : Vector UInt8 32) (w : World) (hK : Kt w) : Calls Tryz.prog 6 #[.agg (secC seed 1).toArray] w fun e w' => e = .returned (.tuple #[.agg (pubC 1 (rootS seed)).toArray, .int .i64 0]) ∧ Gr w w' := by
  obtain ⟨n, hn⟩ : ∃ n, w.heap.size = n := ⟨_, rfl⟩
  have HN := Lib.hid hn
  have HS : Hid (SecAt ((w.alloc (.cells (secC seed 1).toArray 28)).alloc (.cells (pubC 0 zAut).toArray 31)) n seed 1) := SecAt.gr ⟨heap_new _ _ _ hn.symm⟩ ((Gr.refl _).alloc _)
  have HZ : Hid (((w.alloc (.cells (secC seed 1).toArray 28)).alloc (.cells (pubC 0 zAut).toArray 31)).heap[n + 1]? = some (.cells (pubC 0 zAut).toArray 31 (0, 0))) := heap_new _ _ _ (by simp; omega)
  have HG : Hid (Gr w ((w.alloc (.cells (secC seed 1).toArray 28)).alloc (.cells (pubC 0 zAut).toArray 31))) := ((Gr.refl w).alloc _).alloc _
  have HCK := Lib.hid (secCheckC seed)
  have HLV := Lib.hid (leavesC seed)
  have HPO : Hid (∀ v W, Kt W → Nds W v [lfV seed 0, lfV seed 1] → Calls Tryz.prog 12 #[.int .i64 1, v] W fun e w' => e = .returned (.tuple #[.agg (pubC 1 (rootS seed)).toArray, .int .i64 0]) ∧ Gr W w') := fun v W hK hv => publicOfC v _ _ W hK hv
  obtain ⟨j, hj⟩ : ∃ j, rootS seed = j := ⟨_, rfl⟩
  rw [hj] at HPO
  rw [hj]
  generalize lfV seed 0 = x at *
  generalize lfV seed 1 = y at *
  have HK := Lib.hid hK
  obtain ⟨r0, r1, c, a0, a1, z⟩ := HS.out.facts
  have b1 := secC_len seed 1
  have b2 := secC_one seed 1
  have z3 := pubC_one 1 j
  have z4 := pubC_length 1 j
  clear hK hj
  go_enter Tryz.func6, Tryz.ntmps6
  go_wp2_with (go_at_call 11; refine (HCK.out _).mono ?_; rintro e w1 ⟨rfl, hg1⟩)
  have HS1 := Lib.hid (HS.out.gr hg1)
  have HZ1 := Lib.hid ((hg1.block (lt_of_heap HZ.out)).trans HZ.out)
  have HG1 := Lib.hid (HG.out.trans hg1)
  clear r0 r1 c a0 a1 z hg1
  obtain ⟨r0, r1, c, a0, a1, z⟩ := HS1.out.facts
  apply wp_toR (R := fun _ _ W' => Hid (W'.heap[n + 1]? = some (.cells (pubC 1 j).toArray 31 (0, 0))) ∧ Hid (Gr w W'))
  case h =>
    go_region_law (first
      | (go_simp; go_at_call 13; refine (HLV.out _ (HK.out.gr (HG1.out.trans (Gr.refl w1).drew))).mono ?_; rintro e w2 ⟨v, rfl, ho, hg2⟩; obtain ⟨a6, c6, hv6⟩ := ho.shape; have hv6 : v = .slice a6 2 c6 := hv6; subst hv6; have G2 := (Gr.refl w1).drew.trans hg2; obtain ⟨k0, k1, k2, k3, k4, k5⟩ := (HS1.out.gr G2).facts; have hn2 := ho.nds)
      | (go_simp; go_at_call 12; refine (HPO.out _ w2 (HK.out.gr (HG1.out.trans G2)) hn2).mono ?_; rintro e w3 ⟨rfl, hg3⟩; have HG3 := Lib.hid ((HG1.out.trans G2).trans hg3); have HZ3 := Lib.hid (((G2.trans hg3).block (lt_of_heap HZ1.out)).trans HZ1.out); have z0 := hasRow_block HZ3.out 0 17 (by rw [pubC_length]; decide); have z1 := freeRow_block HZ3.out 0 17; have z2 := lt_of_heap HZ3.out))
    all_goals exact ⟨a6, c6, ⟨sets_whole HZ3.out (by rw [pubC_length, pubC_length]), HG3.out.setsOwn (b := n + 1) (by have := HN.out; omega) (pubC 1 j) 0⟩, rfl⟩
  rintro a6 c6 W ⟨hE, hGW⟩
  go_wp2_with fail
  refine bodyPost_ret (results_cellT rfl _ _ (n + 1) _ _ _ _ rfl hE.out Tryz.underlying31 rfl (sizePub _ _)) rfl ?_
  exact ⟨rfl, hGW.out⟩
set_option maxRecDepth 100000 in
set_option maxHeartbeats 2000000 in
theorem ofC (r : V16) (w : World) (hK : Kt w) : Calls Tryz.prog 7 #[.agg (pubC 1 r).toArray] w fun e w' => e = .returned (.tuple #[.agg (bC (half (1 :: r.toList))).toArray, .int .i64 0]) ∧ Gr w w' := by
  obtain ⟨n, hn⟩ : ∃ n, w.heap.size = n := ⟨_, rfl⟩
  have HN := Lib.hid hn
  have HB : Hid (((w.alloc (.cells (pubC 1 r).toArray 31)).alloc (.cells (bC zAut).toArray 35)).heap[n]? = some (.cells (pubC 1 r).toArray 31 (0, 0))) := (((Gr.refl _).alloc _).block (by simp; omega)).trans (heap_new _ _ _ hn.symm)
  have HZ : Hid (((w.alloc (.cells (pubC 1 r).toArray 31)).alloc (.cells (bC zAut).toArray 35)).heap[n + 1]? = some (.cells (bC zAut).toArray 35 (0, 0))) := heap_new _ _ _ (by simp; omega)
  have HG : Hid (Gr w ((w.alloc (.cells (pubC 1 r).toArray 31)).alloc (.cells (bC zAut).toArray 35))) := ((Gr.refl w).alloc _).alloc _
  have HCK : Hid (∀ W, Calls Tryz.prog 14 #[.agg (pubC 1 r).toArray] W fun e w' => e = .returned (.int .i64 0) ∧ Gr W w') := fun W => pubCheckC 1 r W
  have HBY : Hid (∀ W, Calls Tryz.prog 16 #[.agg (pubC 1 r).toArray] W fun e w' => ∃ v, e = .returned v ∧ OwnU w' W.heap.size v (1 :: r.toList) ∧ Gr W w') := fun W => pubBytesC 1 r W (by decide) (by decide)
  have HK := Lib.hid hK
  have b1 := pubC_one 1 r
  have b2 := pubC_length 1 r
  have r0 := hasRow_block HB.out 0 17 (by rw [pubC_length]; decide)
  have r1 := (rowAt_block HB.out 0 17 (by rw [pubC_length]; decide)).trans (rowOf_all _ _ (pubC_length 1 r))
  have r2 := lt_of_heap HB.out
  obtain ⟨y, hy⟩ : ∃ y, half (1 :: r.toList) = y := ⟨_, rfl⟩
  have b3 := bC16_len y
  have b4 := bC16_one y
  clear hK
  go_enter Tryz.func7, Tryz.ntmps7
  go_wp2_with (first
    | (go_at_call 14; refine (HCK.out _).mono ?_; rintro e w1 ⟨rfl, hg1⟩; have HB1 := Lib.hid ((hg1.block (lt_of_heap HB.out)).trans HB.out); have k0 := hasRow_block HB1.out 0 17 (by rw [pubC_length]; decide); have k1 := (rowAt_block HB1.out 0 17 (by rw [pubC_length]; decide)).trans (rowOf_all _ _ (pubC_length 1 r)); have k2 := lt_of_heap HB1.out; clear r0 r1 r2)
    | (go_at_call 16; refine (HBY.out w1).mono ?_; rintro e w2 ⟨v, rfl, ho, hg2⟩)
    | (go_at_call 15; refine (sumHalfC v _ w2 (HK.out.gr ((HG.out.trans hg1).trans hg2)) (by simp) ho.bytG).mono ?_; rw [hy]; rintro e w3 ⟨rfl, hg3⟩; have HG3 := Lib.hid (((HG.out.trans hg1).trans hg2).trans hg3); have HZ3 := Lib.hid ((((hg1.trans hg2).trans hg3).block (lt_of_heap HZ.out)).trans HZ.out); have z0 := hasRow_block HZ3.out 0 16 (by simp [bC16_len]); have z1 := freeRow_block HZ3.out 0 16; have z2 := lt_of_heap HZ3.out))
  have HE : Hid ((w3.setCells (n + 1) 0 (bC y)).heap[n + 1]? = some (.cells (bC y).toArray 35 (0, 0))) := sets_whole HZ3.out (by simp [bC16_len])
  have HG7 := Lib.hid (HG3.out.setsOwn (b := n + 1) (by have := HN.out; omega) (bC y) 0)
  refine bodyPost_ret (results_cellT rfl _ _ (n + 1) _ _ _ _ rfl HE.out Tryz.underlying35 rfl (sizeAu _)) rfl ?_
  exact ⟨by rw [hy]; rfl, HG7.out⟩
end Go.Proofs.YteknmbijodbfoaaGreatDoor

namespace Go.Proofs.YteknmbijodbfoaaGreatDoor
open Go.RowKit

def nilS : Value := .slice none 0 0
def sgC (leaf : Int) (e : Nat → V16) (p : Value) : List Value := .int .i64 leaf :: (chV e ++ [p])
theorem sgC_len (leaf : Int) (e : Nat → V16) (p : Value) : (sgC leaf e p).length = 562 := by unfold sgC; rw [List.length_cons, List.length_append, chV_len]; rfl
theorem sgC_one (leaf : Int) (e : Nat → V16) (a : Option Addr) (n c : Nat) : oneB (sgC leaf e (.slice a n c)) = true := by
  unfold sgC; rw [oneB_cons]; simp only [oneB_append, chV_one]; rfl
attribute [go_sem] chV_len sgC_len chV_one
@[go_sem] theorem sgC_oneN (leaf : Int) (e : Nat → V16) : oneB (sgC leaf e nilS) = true := sgC_one leaf e none 0 0
theorem sgC_path (leaf : Int) (e : Nat → V16) (p : Value) : (sgC leaf e p)[561]? = some p := by
  unfold sgC; rw [List.getElem?_cons_succ, List.getElem?_append_right (by rw [chV_len]; exact Nat.le_refl _), chV_len]; rfl
theorem sgC_leaf (leaf : Int) (e : Nat → V16) (p : Value) : (sgC leaf e p)[0]? = some (.int .i64 leaf) := rfl
theorem sgC_chains (leaf : Int) (e : Nat → V16) (p : Value) : rowOf (sgC leaf e p) 1 560 = chV e := by
  unfold sgC; rw [rowOf_cons _ _ _ _ (by decide), rowOf_app_l _ _ _ (chV_len _)]
theorem sgC_set (leaf : Int) (e : Nat → V16) (p q : Value) : (sgC leaf e p).set 561 q = sgC leaf e q := by
  unfold sgC; rw [List.set_cons_succ, List.set_append_right _ _ (by rw [chV_len]; exact Nat.le_refl _), chV_len]; rfl
theorem list_exp (l : List Value) (n : Nat) (h : l.length = n) : l = (List.range n).map fun j => l.getD j undef := by
  subst h
  apply List.ext_getElem
  · simp
  · intro i h1 h2
    rw [List.getElem_map, List.getElem_range, List.getD_eq_getElem?_getD, List.getElem?_eq_getElem h1]; rfl
theorem bSgF (x : Int) (f : Nat → Value) (w : World) : (Instr.build 45 #[(0, .int .i64 x), (1, .agg ((List.range 560).map f).toArray)]).run Tryz.prog w = .ok (.agg (.int .i64 x :: ((List.range 560).map f ++ [nilS])).toArray) w := by kernel_rfl
theorem bSg0 (x : Int) (e : Nat → V16) (w : World) : (Instr.build 45 #[(0, .int .i64 x), (1, .agg (chV e).toArray)]).run Tryz.prog w = .ok (.agg (sgC x e nilS).toArray) w := by
  unfold sgC; rw [list_exp (chV e) 560 (chV_len e)]; exact bSgF _ _ w
@[go_sem] theorem bdSg (x : Int) (e : Nat → V16) (w : World) : bdR Tryz.prog 45 #[(0, .int .i64 x), (1, .agg (chV e).toArray)] w = .ok (.value (.agg (sgC x e nilS).toArray)) w := bd_of (bSg0 x e w)
@[go_sem ↓ high] theorem zeroSgn (w : World) : Sem.run Tryz.prog (zeroValue 45) w = .ok (.agg (sgC 0 (fun _ => zAut) nilS).toArray) w := by kernel_rfl
@[go_sem] theorem aggSgn : aggB Tryz.prog 45 = true := by kernel_rfl
@[go_sem] theorem cellsSgn : Tryz.prog.cellsOf 45 = 562 := by kernel_rfl
theorem sizeSgn (leaf : Int) (e : Nat → V16) (p : Value) : (Tryz.prog.info? 45).map (fun x => x.size) = some (sgC leaf e p).toArray.size := by
  rw [List.size_toArray, sgC_len]; kernel_rfl
end Go.Proofs.YteknmbijodbfoaaGreatDoor

namespace Go.Proofs.YteknmbijodbfoaaGreatDoor
open Go.RowKit

theorem OwnV.set {t : TypeId} {w : World} {base : Nat} {v : Value} {l : List V16} {k : Nat} (h : OwnV t w base v l) (o : Nat) (u : Value) (hk : v.ownBlock ≠ some k) : OwnV t (w.setCell ⟨k, o, none⟩ u) base v l := h.kept (grown_set w k o u) hk
set_option maxRecDepth 100000 in
set_option maxHeartbeats 2000000 in
theorem secSignC (seed : Vector UInt8 32) (d : V16) (v : Value) (x y : V16) (w : World) (hK : Kt w) (hv : Nds w v [x, y]) : Calls Tryz.prog 30 #[.agg (secC seed 1).toArray, v, .int .i64 0, .agg (bC d).toArray] w fun e w' => ∃ pv, e = .returned (.tuple #[.agg (sgC 0 (sigV seed 0 d) pv).toArray, .int .i64 0]) ∧ OwnV 29 w' w.heap.size pv [y] ∧ Gr w w' := by
  obtain ⟨n, hn⟩ : ∃ n, w.heap.size = n := ⟨_, rfl⟩
  have HN := Lib.hid hn
  obtain ⟨U0, hU⟩ : ∃ U0, ((w.alloc (.cells (secC seed 1).toArray 28)).alloc (.cells (bC d).toArray 29)).alloc (.cells (sgC 0 (fun _ => zAut) nilS).toArray 45) = U0 := ⟨_, rfl⟩
  have H0 : Hid (SecAt U0 n seed 1) := ⟨by
    rw [← hU]
    exact ((((Gr.refl _).alloc _).alloc _).block (by simp; omega)).trans (heap_new _ _ _ (by omega))⟩
  have H1 : Hid (U0.heap[n + 1]? = some (.cells (bC d).toArray 29 (0, 0))) := by
    show _ = _; rw [← hU]
    exact (((Gr.refl _).alloc _).block (by simp; omega)).trans (heap_new _ _ _ (by simp; omega))
  have H2 : Hid (U0.heap[n + 1 + 1]? = some (.cells (sgC 0 (fun _ => zAut) nilS).toArray 45 (0, 0))) := by
    show _ = _; rw [← hU]
    exact heap_new _ _ _ (by simp; omega)
  have HG : Hid (Gr w U0) := by show Gr _ _; rw [← hU]; exact (((Gr.refl w).alloc _).alloc _).alloc _
  have HP := Lib.hid (path2 v x y U0 (hK.gr HG.out) (hv.gr HG.out))
  have HSI : Hid (∀ W, Kt W → Calls Tryz.prog 54 #[.agg (bC seed).toArray, .int .i64 0, .agg (bC d).toArray] W fun x w' => x = .returned (.tuple #[.agg (chV (sigV seed 0 d)).toArray, .int .i64 0]) ∧ Gr W w') := fun W h => otSignC seed 0 (by decide) d W h
  obtain ⟨E, hE⟩ : ∃ E, sigV seed 0 d = E := ⟨_, rfl⟩
  rw [hE] at HSI
  rw [hE]
  have HK := Lib.hid hK
  have b1 := bC16_len d
  have b2 := bC16_one d
  have b3 := bC32_len seed
  have b4 := bC32_one seed
  have b5 := chV_len E
  have b6 := chV_one E
  replace hU := Lib.hid hU
  clear hK hv hE
  go_enter Tryz.func30, Tryz.ntmps30
  go_wp2_with (first
    | (go_at_call 53; rw [hU.out]; refine HP.out.mono ?_; rintro e w1 ⟨pv, rfl, ho1, hg1⟩; obtain ⟨g1, c1, hpv, hc1, hb1, hz1, hn1⟩ := ho1.open (by simp); have hpv : pv = .slice (some ⟨g1, 0, none⟩) 1 c1 := hpv; subst hpv; have d0 := hn1 0 (by simp); have hd0 : NdAt w1 g1 0 y := d0; have HD1 := Lib.hid hd0; have S1 := Lib.hid (H0.out.gr hg1); obtain ⟨r0, r1, r2, r3, r4, r5⟩ := S1.out.facts; have K1 := Lib.hid ((hg1.block (lt_of_heap H1.out)).trans H1.out); have t0 := hasRow_block K1.out 0 16 (by simp [bC16_len]); have t1 := (rowAt_block K1.out 0 16 (by simp [bC16_len])).trans (rowOf_all _ _ (bC16_len d)); have t2 := lt_of_heap K1.out; have K2 := Lib.hid ((hg1.block (lt_of_heap H2.out)).trans H2.out); have HG1 := Lib.hid (HG.out.trans hg1); clear hn1 d0 hd0 ho1 hg1)
    | (go_at_call 54; refine (HSI.out w1 (HK.out.gr HG1.out)).mono ?_; rintro e w2 ⟨rfl, hg2⟩; have hgA := hg2.alloc (.cells (chV E).toArray 122); have hx9 := heap_alloc_new w2 (.cells (chV E).toArray 122); have y4 := hasRow_block hx9 0 560 (by rw [chV_len]; decide); have y5 := (rowAt_block hx9 0 560 (by rw [chV_len]; decide)).trans (rowOf_all _ _ (chV_len E)); have y6 := lt_of_heap hx9; have HD2 := Lib.hid (HD1.out.gr hgA); have K3 := Lib.hid ((hgA.block (lt_of_heap K2.out)).trans K2.out); have HG2 := Lib.hid (HG1.out.trans hgA)))
  have hgB := (Gr.refl (w2.alloc (.cells (chV E).toArray 122))).alloc (.cells (sgC 0 E nilS).toArray 45)
  obtain ⟨m, hm⟩ : ∃ m, w2.heap.size = m := ⟨_, rfl⟩
  have G4 := Lib.hid (HG2.out.trans hgB)
  have K4 := Lib.hid ((hgB.block (lt_of_heap K3.out)).trans K3.out)
  have D4 := Lib.hid (HD2.out.gr hgB)
  have S4 : Hid (((w2.alloc (.cells (chV E).toArray 122)).alloc (.cells (sgC 0 E nilS).toArray 45)).heap[m + 1]? = some (.cells (sgC 0 E nilS).toArray 45 (0, 0))) := heap_new _ _ _ (by simp; omega)
  have HM : Hid (n + 1 + 1 < m) := by have := lt_of_heap K2.out; have := hg2.size; show _ < _; omega
  rw [hm]
  clear hgB hgA hx9 y4 y5 y6 r0 r1 r2 r3 r4 r5 t0 t1 t2 hg2 hU hm
  generalize (w2.alloc (.cells (chV E).toArray 122)).alloc (.cells (sgC 0 E nilS).toArray 45) = W4 at *
  have c0 : W4.cell? ⟨m + 1, 561, none⟩ = some (.slice none 0 0) := (cell_block S4.out 561).trans (sgC_path _ _ _)
  have f0 := free_block S4.out 561
  have z0 := lt_of_heap S4.out
  have d1 := D4.out.h
  have d2 := D4.out.r
  have d3 := D4.out.z
  have b7 := bC16_len y
  have b8 := bC16_one y
  refine wp_loop_rounds 2 ?_
  rw [rounds_succ]
  have hg5 := ((Gr.refl W4).alloc (.cells (bC y).toArray 75))
  have hx9 := heap_alloc_new W4 (.cells (bC y).toArray 75)
  have y4 := hasRow_block hx9 0 16 (by simp [bC16_len])
  have y5 := (rowAt_block hx9 0 16 (by simp [bC16_len])).trans (rowOf_all _ _ (bC16_len y))
  have y6 := lt_of_heap hx9
  have O8 : Hid (OwnV 29 ((W4.alloc (.cells (bC y).toArray 75)).alloc (.cells (bC y).toArray 29)) 0 (.slice (some ⟨W4.heap.size + 1, 0, none⟩) 1 1) [y]) := OwnV.one (heap_new _ _ _ (by simp)) (Nat.zero_le _)
  have z7 : W4.heap.size ≤ ((W4.alloc (.cells (bC y).toArray 75)).alloc (.cells (bC y).toArray 29)).heap.size := by simp; omega
  have hg6 := hg5.alloc (.cells (bC y).toArray 29)
  go_wp2_with (at_builtin; refine wpList_append_v _ rfl _ _ 43 29 rfl Tryz.underlying43 infoA16 W4.heap.size (.slice none 0 0) [] (by simp [Act.eval]) (OwnV.nil _ _ _) (.slice (some ⟨W4.heap.size + 1, 0, none⟩) 1 1) [y] (by simp [Act.eval]) O8.out.nds 1 rfl (by decide) z7 ?_; intro a3 n3 w5 ho5 hg7; have HG5 := Lib.hid (hg6.grown hg7 (fun k hk => by cases hk)); have HO5 : Hid (OwnV 29 w5 W4.heap.size (.slice a3 1 n3) [y]) := ho5; have S5 := Lib.hid ((HG5.out.block (lt_of_heap S4.out)).trans S4.out); have p0 : w5.cell? ⟨m + 1, 561, none⟩ = some (.slice none 0 0) := (cell_block S5.out 561).trans (sgC_path _ _ _); have p1 := free_block S5.out 561; have p2 := lt_of_heap S5.out)
  rw [rounds_succ]
  have S6 : Hid ((w5.setCell ⟨m + 1, 561, none⟩ (.slice a3 1 n3)).heap[m + 1]? = some (.cells (sgC 0 E (.slice a3 1 n3)).toArray 45 (0, 0))) := by
    show _ = _
    rw [heap_setCell_same _ (m + 1) 561 _ _ _ S5.out]; simp; exact sgC_set _ _ _ _
  have K6 : Hid ((w5.setCell ⟨m + 1, 561, none⟩ (.slice a3 1 n3)).heap[n + 1 + 1]? = some (.cells (sgC 0 (fun _ => zAut) nilS).toArray 45 (0, 0))) := (heap_setCell_other _ ⟨m + 1, 561, none⟩ (n + 1 + 1) _ (by have := HM.out; show n + 1 + 1 ≠ m + 1; omega)).trans ((HG5.out.block (lt_of_heap K4.out)).trans K4.out)
  have G6 : Hid (Gr w (w5.setCell ⟨m + 1, 561, none⟩ (.slice a3 1 n3))) := (G4.out.trans HG5.out).setOwn (by have := HM.out; have := HN.out; omega) _
  have O6 : Hid (OwnV 29 (w5.setCell ⟨m + 1, 561, none⟩ (.slice a3 1 n3)) W4.heap.size (.slice a3 1 n3) [y]) := HO5.out.set 561 _ (fun e => by
    have h1 := (HO5.out.own e).1
    have := lt_of_heap S4.out
    omega)
  clear p0 p1 p2 hg7 ho5 hg6 hg5 hx9 y4 y5 y6 z7 O8 c0 f0 z0 d1 d2 d3
  generalize w5.setCell ⟨m + 1, 561, none⟩ (.slice a3 1 n3) = W6 at *
  have q0 := hasRow_block S6.out 0 562 (by rw [sgC_len]; decide)
  have q1 := (rowAt_block S6.out 0 562 (by rw [sgC_len]; decide)).trans (rowOf_all _ _ (sgC_len _ _ _))
  have q2 := lt_of_heap S6.out
  have q3 := hasRow_block K6.out 0 562 (by rw [sgC_len]; decide)
  have q4 := freeRow_block K6.out 0 562
  have q5 := lt_of_heap K6.out
  have q6 := sgC_one 0 E a3 1 n3
  go_wp2_with fail
  have HE : Hid ((W6.setCells (n + 1 + 1) 0 (sgC 0 E (.slice a3 1 n3))).heap[n + 1 + 1]? = some (.cells (sgC 0 E (.slice a3 1 n3)).toArray 45 (0, 0))) := sets_whole K6.out (by rw [sgC_len, sgC_len])
  have HG7 := Lib.hid (G6.out.setsOwn (b := n + 1 + 1) (by have := HN.out; omega) (sgC 0 E (.slice a3 1 n3)) 0)
  refine bodyPost_ret (results_cellT rfl _ _ (n + 1 + 1) _ _ _ _ rfl HE.out Tryz.underlying45 rfl (sizeSgn _ _ _)) rfl ?_
  exact ⟨.slice a3 1 n3, rfl, (O6.out.kept (grown_atsV (sgC 0 E (.slice a3 1 n3)) 0 _ (grown_refl W6 (some (n + 1 + 1)))) (fun e => by
    have h1 := (O6.out.own e).1
    have := lt_of_heap S4.out
    have := HM.out
    omega)).base (by rw [HN.out]; exact Nat.le_trans (by have := HM.out; omega) (Nat.le_of_lt (lt_of_heap S4.out))), HG7.out⟩
end Go.Proofs.YteknmbijodbfoaaGreatDoor

namespace Go.Proofs.YteknmbijodbfoaaGreatDoor
open Go.RowKit

/-- The end of a region that draws its order: a slice, a value, a world. -/
def AtEndW (A : Option Addr → Nat → Value → Act) (R : Option Addr → Nat → Value → World → Prop) (e : Exit) (a : Act) (w : World) : Prop := match e with | .normal => ∃ x n v, R x n v w ∧ a = A x n v | _ => False
theorem wp_toW {P : Program} {c : Code} {Q' : Exit → Act → World → Prop} {a : Act} {w : World} (A : Option Addr → Nat → Value → Act) (R : Option Addr → Nat → Value → World → Prop) (h : c.wp P (AtEndW A R) a w) (hq : ∀ x n v W, R x n v W → Q' .normal (A x n v) W) : c.wp P Q' a w :=
  Code.wp_mono (fun e a w h => by cases e <;> first | exact h.elim | (obtain ⟨x, n, v, h2, h3⟩ := h; subst h3; exact hq x n v w h2)) h
theorem Nds.shape {W : World} {v : Value} {l : List V16} (h : Nds W v l) : ∃ a c, v = .slice a l.length c := by
  obtain ⟨a, c, hv, _⟩ := h
  exact ⟨a, c, by rw [hv, List.length_map]⟩
set_option maxRecDepth 100000 in
set_option maxHeartbeats 4000000 in
theorem sgSignC (seed : Vector UInt8 32) (d : V16) (w : World) (hK : Kt w) : Calls Tryz.prog 18 #[.agg (secC seed 1).toArray, .int .i64 0, .agg (bC d).toArray] w fun e w' => ∃ pv, e = .returned (.tuple #[.agg (sgC 0 (sigV seed 0 d) pv).toArray, .int .i64 0]) ∧ OwnV 29 w' w.heap.size pv [lfV seed 1] ∧ Gr w w' := by
  obtain ⟨n, hn⟩ : ∃ n, w.heap.size = n := ⟨_, rfl⟩
  have HN := Lib.hid hn
  obtain ⟨U0, hU⟩ : ∃ U0, ((w.alloc (.cells (secC seed 1).toArray 28)).alloc (.cells (bC d).toArray 29)).alloc (.cells (sgC 0 (fun _ => zAut) nilS).toArray 45) = U0 := ⟨_, rfl⟩
  have H0 : Hid (SecAt U0 n seed 1) := ⟨by
    rw [← hU]
    exact ((((Gr.refl _).alloc _).alloc _).block (by simp; omega)).trans (heap_new _ _ _ (by omega))⟩
  have H1 : Hid (U0.heap[n + 1]? = some (.cells (bC d).toArray 29 (0, 0))) := by
    show _ = _; rw [← hU]
    exact (((Gr.refl _).alloc _).block (by simp; omega)).trans (heap_new _ _ _ (by simp; omega))
  have H2 : Hid (U0.heap[n + 1 + 1]? = some (.cells (sgC 0 (fun _ => zAut) nilS).toArray 45 (0, 0))) := by
    show _ = _; rw [← hU]
    exact heap_new _ _ _ (by simp; omega)
  have HG : Hid (Gr w U0) := by show Gr _ _; rw [← hU]; exact (((Gr.refl w).alloc _).alloc _).alloc _
  have HCK := Lib.hid (secCheckC seed)
  have HLV := Lib.hid (leavesC seed)
  have HSI := Lib.hid (fun v W hK hv => secSignC seed d v (lfV seed 0) (lfV seed 1) W hK hv)
  obtain ⟨E, hE⟩ : ∃ E, sigV seed 0 d = E := ⟨_, rfl⟩
  rw [hE] at HSI
  rw [hE]
  generalize lfV seed 0 = x at *
  generalize lfV seed 1 = y at *
  have HK := Lib.hid hK
  have b1 := bC16_len d
  have b2 := bC16_one d
  have b3 := secC_len seed 1
  have b4 := secC_one seed 1
  have KS : Hid (∀ W, Gr U0 W → SecFacts W n seed 1 ∧ hasRow W ⟨n + 1, 0, none⟩ 16 = true ∧ rowAt W ⟨n + 1, 0, none⟩ 16 = bC d ∧ n + 1 < W.heap.size) := fun W hW => by
    have hh := (hW.block (lt_of_heap H1.out)).trans H1.out
    exact ⟨(H0.out.gr hW).facts, hasRow_block hh 0 16 (by simp [bC16_len]), (rowAt_block hh 0 16 (by simp [bC16_len])).trans (rowOf_all _ _ (bC16_len d)), lt_of_heap hh⟩
  replace hU := Lib.hid hU
  obtain ⟨⟨r0, r1, r2, r3, r4, r5⟩, t0, t1, t2⟩ := KS.out U0 (Gr.refl U0)
  clear hK hE
  go_enter Tryz.func18, Tryz.ntmps18
  go_wp2_with (go_at_call 11; rw [hU.out]; refine (HCK.out U0).mono ?_; rintro e w1 ⟨rfl, hg1⟩; have HG1 := Lib.hid hg1; clear r0 r1 r2 r3 r4 r5 t0 t1 t2; obtain ⟨⟨r0, r1, r2, r3, r4, r5⟩, t0, t1, t2⟩ := KS.out w1 hg1; clear hg1)
  have hgd := HG1.out.drew
  apply wp_toW (R := fun _ _ pv W' => Hid (W'.heap[n + 1 + 1]? = some (.cells (sgC 0 E pv).toArray 45 (0, 0))) ∧ Hid (OwnV 29 W' w.heap.size pv [y]) ∧ Hid (Gr w W'))
  case h =>
    go_region_law (first
      | (go_simp; go_at_call 13; refine (HLV.out _ (HK.out.gr (HG.out.trans hgd))).mono ?_; rintro e w2 ⟨v, rfl, ho, hg2⟩; obtain ⟨a6, c6, hv6⟩ := ho.shape; replace hv6 : v = .slice a6 2 c6 := hv6; subst hv6; have G2 := hgd.trans hg2; obtain ⟨⟨k0, k1, k2, k3, k4, k5⟩, k6, k7, k8⟩ := KS.out w2 G2; have hn2 := ho.nds)
      | (go_simp; go_at_call 30; refine (HSI.out _ w2 (HK.out.gr (HG.out.trans G2)) hn2).mono ?_; rintro e w3 ⟨pv, rfl, hpv, hg3⟩; obtain ⟨ap, cp, hpe⟩ := hpv.shape; replace hpe : pv = .slice ap 1 cp := hpe; subst hpe; have G3 := G2.trans hg3; have HZ3 := Lib.hid ((G3.block (lt_of_heap H2.out)).trans H2.out); have z0 := hasRow_block HZ3.out 0 562 (by rw [sgC_len]; decide); have z1 := freeRow_block HZ3.out 0 562; have z2 := lt_of_heap HZ3.out; have z3 := sgC_one 0 E ap 1 cp))
    all_goals (have hR : Hid ((w3.setCells (n + 1 + 1) 0 (sgC 0 E (.slice ap 1 cp))).heap[n + 1 + 1]? = some (.cells (sgC 0 E (.slice ap 1 cp)).toArray 45 (0, 0))) ∧ Hid (OwnV 29 (w3.setCells (n + 1 + 1) 0 (sgC 0 E (.slice ap 1 cp))) w.heap.size (.slice ap 1 cp) [y]) ∧ Hid (Gr w (w3.setCells (n + 1 + 1) 0 (sgC 0 E (.slice ap 1 cp)))) := ⟨sets_whole HZ3.out (by rw [sgC_len, sgC_len]), (hpv.kept (grown_atsV (sgC 0 E (.slice ap 1 cp)) 0 _ (grown_refl w3 (some (n + 1 + 1)))) (fun e => by have h1 := (hpv.own e).1; have := lt_of_heap ((G2.block (lt_of_heap H2.out)).trans H2.out); omega)).base ((HG.out.trans G2).size), (HG.out.trans G3).setsOwn (b := n + 1 + 1) (by have := HN.out; omega) _ 0⟩)
    all_goals (obtain ⟨pv, hpv9⟩ : ∃ pv : Value, .slice ap 1 cp = pv := ⟨_, rfl⟩; rw [hpv9] at hR ⊢; exact ⟨a6, c6, pv, hR, rfl⟩)
  rintro a6 c6 pv W ⟨hE, hNd, hGW⟩
  go_wp2_with fail
  refine bodyPost_ret (results_cellT rfl _ _ (n + 1 + 1) _ _ _ _ rfl hE.out Tryz.underlying45 rfl (sizeSgn _ _ _)) rfl ?_
  exact ⟨pv, rfl, hNd.out, hGW.out⟩
end Go.Proofs.YteknmbijodbfoaaGreatDoor

namespace Go.Proofs.YteknmbijodbfoaaGreatDoor
open Go.RowKit

@[go_sem] theorem sgC_get0 (leaf : Int) (e : Nat → V16) (p : Value) (h : 0 < (sgC leaf e p).length) : (sgC leaf e p)[0]'h = .int .i64 leaf := rfl
@[go_sem] theorem sgC_get561 (leaf : Int) (e : Nat → V16) (p : Value) (h : 561 < (sgC leaf e p).length) : (sgC leaf e p)[561]'h = p := by
  have := sgC_path leaf e p
  rw [List.getElem?_eq_getElem h] at this
  exact Option.some.inj this
attribute [go_sem] sgC_chains sgC_path
@[go_sem] theorem sgC_whole (leaf : Int) (e : Nat → V16) (p : Value) : rowOf (sgC leaf e p) 0 562 = sgC leaf e p := rowOf_all _ _ (sgC_len _ _ _)
structure SgFacts (W : World) (b : Nat) (leaf : Int) (e : Nat → V16) (p : Value) : Prop where
  c0 : W.cell? ⟨b, 0, none⟩ = some (.int .i64 leaf)
  cp : W.cell? ⟨b, 561, none⟩ = some p
  h1 : hasRow W ⟨b, 1, none⟩ 560 = true
  r1 : rowAt W ⟨b, 1, none⟩ 560 = chV e
  h0 : hasRow W ⟨b, 0, none⟩ 562 = true
  r0 : rowAt W ⟨b, 0, none⟩ 562 = sgC leaf e p
  z : b < W.heap.size
theorem sg_facts {W : World} {b : Nat} {leaf : Int} {e : Nat → V16} {p : Value} (h : W.heap[b]? = some (.cells (sgC leaf e p).toArray 45 (0, 0))) : SgFacts W b leaf e p :=
  ⟨(cell_block h 0).trans (sgC_leaf _ _ _), (cell_block h 561).trans (sgC_path _ _ _), hasRow_block h 1 560 (by rw [sgC_len]; decide), (rowAt_block h 1 560 (by rw [sgC_len]; decide)).trans (sgC_chains _ _ _), hasRow_block h 0 562 (by rw [sgC_len]; decide), (rowAt_block h 0 562 (by rw [sgC_len]; decide)).trans (rowOf_all _ _ (sgC_len _ _ _)), lt_of_heap h⟩
set_option maxRecDepth 100000 in
set_option maxHeartbeats 2000000 in
theorem sgCheckC (leaf : Nat) (e : Nat → V16) (a : Option Addr) (N c : Nat) (h1 : 1 ≤ N) (h8 : N ≤ 8) (hl : leaf < 2 ^ N) (w : World) : Calls Tryz.prog 55 #[.agg (sgC (leaf : Int) e (.slice a N c)).toArray] w fun x w' => x = .returned (.int .i64 0) ∧ Gr w w' := by
  obtain ⟨n, hn⟩ : ∃ n, w.heap.size = n := ⟨_, rfl⟩
  have HB : Hid ((w.alloc (.cells (sgC (leaf : Int) e (.slice a N c)).toArray 45)).heap[n]? = some (.cells (sgC (leaf : Int) e (.slice a N c)).toArray 45 (0, 0))) := heap_new _ _ _ hn.symm
  have HG : Hid (Gr w (w.alloc (.cells (sgC (leaf : Int) e (.slice a N c)).toArray 45))) := (Gr.refl w).alloc _
  have hhe : heightErr (N : Int) = 0 := by unfold heightErr; rw [if_neg (by omega)]
  have HH : Hid (∀ W, Calls Tryz.prog 22 #[.int .i64 (N : Int)] W fun e w' => e = .returned (.int .i64 0) ∧ W = w') := fun W => by
    have := checkHeightC (N : Int) W
    rw [hhe] at this; exact this
  have hw64 : wrap64 ((2 : Int) ^ N) = ((2 ^ N : Nat) : Int) := by
    have h : ∀ N : Fin 9, wrap64 ((2 : Int) ^ N.val) = ((2 ^ N.val : Nat) : Int) := by decide +kernel
    exact h ⟨N, by omega⟩
  have i3 : (leaf : Int) < wrap64 ((2 : Int) ^ N) := by rw [hw64]; exact_mod_cast hl
  have i1 : (0 : Int) ≤ (leaf : Int) := by omega
  have i4 : ¬ (leaf : Int) < 0 := by omega
  have i5 : ¬ wrap64 ((2 : Int) ^ N) ≤ (leaf : Int) := by omega
  have i6 : decide ((leaf : Int) < 0) = false := by simp
  have i7 : decide (wrap64 ((2 : Int) ^ N) ≤ (leaf : Int)) = false := by simp only [decide_eq_false_iff_not]; omega
  have i2 : (N : Int) ≤ 63 := by omega
  have i0 : (0 : Int) ≤ (N : Int) := by omega
  obtain ⟨c0, cp, -, -, r0, r1, z⟩ := sg_facts HB.out
  clear hw64
  go_enter Tryz.func55, Tryz.ntmps55
  go_wp2_with fail
  generalize w.alloc (.cells (sgC (leaf : Int) e (.slice a N c)).toArray 45) = U0 at *
  refine wp_region_gr (by kernel_rfl) (by kernel_rfl) ?_
  have HH2 : Hid (∀ p : GD, Calls Tryz.prog 22 #[.int .i64 (N : Int)] (gw U0 p) fun e w'' => e = .returned (.int .i64 0) ∧ ∃ q : GD, w'' = gw U0 q) := fun p => gr_same (HH.out _)
  repeat (go_big_quiet_step ((go_at_call 22; with_reducible exact HH2.out _)))
  refine wpQuiet_nil ?_
  rintro _ ⟨q, rfl⟩
  go_wp2_with fail
  go_ret
  exact ⟨rfl, HG.out.trans (gr_gw U0 q)⟩
set_option maxRecDepth 100000 in
set_option maxHeartbeats 2000000 in
theorem sgPublicC (leaf : Nat) (hl : leaf ≤ 65535) (e : Nat → V16) (a : Option Addr) (N c : Nat) (d : V16) (w : World) (hK : Kt w) : Calls Tryz.prog 105 #[.agg (sgC (leaf : Int) e (.slice a N c)).toArray, .agg (bC d).toArray] w fun x w' => x = .returned (.agg (bC (recV leaf d e)).toArray) ∧ Gr w w' := by
  obtain ⟨n, hn⟩ : ∃ n, w.heap.size = n := ⟨_, rfl⟩
  have HN := Lib.hid hn
  obtain ⟨U0, hU⟩ : ∃ U0, ((w.alloc (.cells (sgC (leaf : Int) e (.slice a N c)).toArray 45)).alloc (.cells (bC d).toArray 29)).alloc (.cells (bC zAut).toArray 29) = U0 := ⟨_, rfl⟩
  have H0 : Hid (U0.heap[n]? = some (.cells (sgC (leaf : Int) e (.slice a N c)).toArray 45 (0, 0))) := by
    show _ = _; rw [← hU]
    exact ((((Gr.refl _).alloc _).alloc _).block (by simp; omega)).trans (heap_new _ _ _ (by omega))
  have H1 : Hid (U0.heap[n + 1]? = some (.cells (bC d).toArray 29 (0, 0))) := by
    show _ = _; rw [← hU]
    exact (((Gr.refl _).alloc _).block (by simp; omega)).trans (heap_new _ _ _ (by simp; omega))
  have H2 : Hid (U0.heap[n + 1 + 1]? = some (.cells (bC zAut).toArray 29 (0, 0))) := by
    show _ = _; rw [← hU]
    exact heap_new _ _ _ (by simp; omega)
  have HG : Hid (Gr w U0) := by show Gr _ _; rw [← hU]; exact (((Gr.refl w).alloc _).alloc _).alloc _
  have HR := Lib.hid (recoverC leaf hl d e U0 (hK.gr HG.out))
  obtain ⟨y, hy⟩ : ∃ y, recV leaf d e = y := ⟨_, rfl⟩
  rw [hy] at HR ⊢
  obtain ⟨c0, cp, r2, r3, r0, r1, z⟩ := sg_facts H0.out
  have q0 := hasRow_block H1.out 0 16 (by simp [bC16_len])
  have q1 := (rowAt_block H1.out 0 16 (by simp [bC16_len])).trans (rowOf_all _ _ (bC16_len d))
  have q2 := lt_of_heap H1.out
  have b1 := bC16_len d
  have b2 := bC16_one d
  have b3 := bC16_len y
  have b4 := bC16_one y
  have b5 := sgC_one (leaf : Int) e a N c
  replace hU := Lib.hid hU
  clear hK hy
  go_enter Tryz.func105, Tryz.ntmps105
  go_wp2_with (go_at_call 134; rw [hU.out]; refine HR.out.mono ?_; rintro x w1 ⟨rfl, hg1⟩; have hgA := hg1.alloc (.cells (bC y).toArray 29); have K2 := Lib.hid ((hgA.block (lt_of_heap H2.out)).trans H2.out); have HG2 := Lib.hid (HG.out.trans hgA); have hx9 := heap_alloc_new w1 (.cells (bC y).toArray 29); have y4 := hasRow_block hx9 0 16 (by simp [bC16_len]); have y5 := (rowAt_block hx9 0 16 (by simp [bC16_len])).trans (rowOf_all _ _ (bC16_len y)); have y6 := lt_of_heap hx9; have z0 := hasRow_block K2.out 0 16 (by simp [bC16_len]); have z1 := freeRow_block K2.out 0 16; have z2 := lt_of_heap K2.out)
  have HE : Hid (((w1.alloc (.cells (bC y).toArray 29)).setCells (n + 1 + 1) 0 (bC y)).heap[n + 1 + 1]? = some (.cells (bC y).toArray 29 (0, 0))) := sets_whole K2.out (by simp [bC16_len])
  have HG7 := Lib.hid (HG2.out.setsOwn (b := n + 1 + 1) (by have := HN.out; omega) (bC y) 0)
  refine bodyPost_ret (results_cell_row rfl _ _ (n + 1 + 1) _ _ _ _ rfl HE.out Tryz.underlying29 rfl (sizeV16 _)) rfl ?_
  exact ⟨rfl, HG7.out⟩
set_option maxRecDepth 100000 in
set_option maxHeartbeats 2000000 in
theorem nodesC (leaf : Int) (e : Nat → V16) (p : Value) (l : List V16) (hl0 : l ≠ []) (hl : l.length ≤ 100) (w : World) (hp : Nds w p l) : Calls Tryz.prog 107 #[.agg (sgC leaf e p).toArray] w fun x w' => ∃ v, x = .returned v ∧ OwnV 75 w' w.heap.size v l ∧ Gr w w' := by
  obtain ⟨n, hn⟩ : ∃ n, w.heap.size = n := ⟨_, rfl⟩
  have HN := Lib.hid hn
  obtain ⟨N, hN⟩ : ∃ N, l.length = N := ⟨_, rfl⟩
  obtain ⟨b, k, c, rfl, hc, hj⟩ := hp.at hl0 N hN
  have HB : Hid ((w.alloc (.cells (sgC leaf e (.slice (some ⟨b, k, none⟩) N c)).toArray 45)).heap[n]? = some (.cells (sgC leaf e (.slice (some ⟨b, k, none⟩) N c)).toArray 45 (0, 0))) := heap_new _ _ _ hn.symm
  have HG : Hid (Gr w (w.alloc (.cells (sgC leaf e (.slice (some ⟨b, k, none⟩) N c)).toArray 45))) := (Gr.refl w).alloc _
  have HJ := Lib.hid hj
  have HNL := Lib.hid hN
  rw [hN] at hl
  obtain ⟨c0, cp, r2, r3, r0, r1, z⟩ := sg_facts HB.out
  clear hp hj hN
  go_enter Tryz.func107, Tryz.ntmps107
  go_wp2_with fail
  clear c0 cp r2 r3 r0 r1 z
  generalize w.alloc (.cells (sgC leaf e (.slice (some ⟨b, k, none⟩) N c)).toArray 45) = U0 at *
  go_loopw [3, 5, 9, 10, 11, 12, 13, 14, 15, 16, 17] (fun s _ i _ _ _ _ _ _ _ _ wr => ∃ q : Nat, q ≤ N ∧ i = .int .i64 (q : Int) ∧ (∃ a c, s = .slice a q c) ∧ Hid (OwnV 75 wr n s (l.take q)) ∧ Hid (Gr w wr)) (fun _ _ i _ _ _ _ _ _ _ _ _ => N - (intOf i).toNat)
  case atStart => exact ⟨0, Nat.zero_le _, rfl, ⟨none, 0, rfl⟩, OwnV.nil _ _ _, HG.out⟩
  case round =>
    obtain ⟨q, hq, rfl, ⟨a6, c6, rfl⟩, hO, hG⟩ := hrel
    by_cases hlt : q < N
    · have hk1 : (q : Int) < (N : Int) := by omega
      have hk2 : (0 : Int) ≤ (q : Int) := by omega
      have hql : q < l.length := by have := HNL.out; omega
      have d0 := (HJ.out q _ (List.getElem?_eq_getElem hql)).gr hG.out
      have HTK : Hid (l.take q ++ [l[q]] = l.take (q + 1)) := (List.take_succ_eq_append_getElem hql).symm
      have HTL : Hid ((l.take q).length = q) := by show _ = _; rw [List.length_take]; omega
      generalize l[q] = x at *
      have y1 := d0.h
      have y2 := d0.r
      have y3 := d0.z
      have b3 := bC16_len x
      have b4 := bC16_one x
      have hgA := (Gr.refl wr).alloc (.cells (bC x).toArray 29)
      have hx9 := heap_alloc_new wr (.cells (bC x).toArray 29)
      have y4 := hasRow_block hx9 0 16 (by simp [bC16_len])
      have y5 := (rowAt_block hx9 0 16 (by simp [bC16_len])).trans (rowOf_all _ _ (bC16_len x))
      have y6 := lt_of_heap hx9
      have hgB := hgA.alloc (.cells (bC x).toArray 75)
      have O7 := Lib.hid (hO.out.gr hgB)
      have O8 : Hid (OwnV 75 ((wr.alloc (.cells (bC x).toArray 29)).alloc (.cells (bC x).toArray 75)) 0 (.slice (some ⟨wr.heap.size + 1, 0, none⟩) 1 1) [x]) := OwnV.one (heap_new _ _ _ (by simp)) (Nat.zero_le _)
      have z7 : n ≤ ((wr.alloc (.cells (bC x).toArray 29)).alloc (.cells (bC x).toArray 75)).heap.size := by have := hG.out.size; have := hgB.size; have := HN.out; omega
      have HGB := Lib.hid (hG.out.trans hgB)
      clear hgA hgB hx9 d0
      go_wp2_with (at_builtin; refine wpList_append_v _ rfl _ _ 56 75 rfl Tryz.underlying56 infoNode n (.slice a6 q c6) (l.take q) (by simp [Act.eval]) O7.out (.slice (some ⟨wr.heap.size + 1, 0, none⟩) 1 1) [x] (by simp [Act.eval]) O8.out.nds (q + 1) (by rw [HTL.out]; rfl) (by omega) z7 ?_; intro a3 n3 w5 ho5 hg7)
      go_roundw
      case rel => exact ⟨q + 1, by omega, by go_num, ⟨a3, n3, rfl⟩, by show Hid _; rw [← HTK.out]; exact ho5, HGB.out.grown hg7 (fun k hk => by have := (O7.out.own hk).1; have := HN.out; omega)⟩
      case measure => simp [intOf]; omega
    · obtain rfl : q = N := by omega
      have e9 : l.take q = l := by rw [← HNL.out, List.take_length]
      go_wp2_with fail
      go_ret
      exact ⟨_, rfl, by rw [HN.out, ← e9]; exact hO.out, hG.out⟩
end Go.Proofs.YteknmbijodbfoaaGreatDoor

namespace Go.Proofs.YteknmbijodbfoaaGreatDoor
open Go.RowKit

theorem Gr.keepNew {W X : World} {o : Obj} (h : Gr (W.alloc o) X) : X.heap[W.heap.size]? = some o := (h.block (by simp)).trans (heap_alloc_new W o)
theorem Gr.keepNewD {W X : World} {o : Obj} (h : Gr (W.alloc o).drew X) : X.heap[W.heap.size]? = some o := (h.block (by simp)).trans (heap_alloc_new W o)
theorem there_block {w : World} {b : Nat} {cs : List Value} {t : TypeId} {n : Nat} (h : w.heap[b]? = some (.cells cs.toArray t (0, 0))) (hl : cs.length = n) : w.there b 0 n := fun j hj => ⟨by rw [Nat.zero_add, cell_block h, List.getElem?_eq_getElem (by omega)]; rfl, free_block h _⟩
/-- The end of a region: a block number, a slice, a world. -/
def AtEndX (A : Nat → Option Addr → Nat → Act) (R : Nat → World → Prop) (e : Exit) (a : Act) (w : World) : Prop := match e with | .normal => ∃ x s n, R x w ∧ a = A x s n | _ => False
theorem wp_toX {P : Program} {c : Code} {Q' : Exit → Act → World → Prop} {a : Act} {w : World} (A : Nat → Option Addr → Nat → Act) (R : Nat → World → Prop) (h : c.wp P (AtEndX A R) a w) (hq : ∀ x s n W, R x W → Q' .normal (A x s n) W) : c.wp P Q' a w :=
  Code.wp_mono (fun e a w h => by cases e <;> first | exact h.elim | (obtain ⟨x, s, n, h2, h3⟩ := h; subst h3; exact hq x s n w h2)) h
set_option maxRecDepth 100000 in
set_option maxHeartbeats 4000000 in
theorem rootC (leaf : Nat) (e : Nat → V16) (p : Value) (l : List V16) (d : V16) (h1 : 1 ≤ l.length) (h8 : l.length ≤ 8) (hl : leaf < 2 ^ l.length) (w : World) (hK : Kt w) (hp : Nds w p l) :
    Calls Tryz.prog 84 #[.agg (bC d).toArray, .agg (sgC (leaf : Int) e p).toArray] w fun x w' => x = .returned (.tuple #[.agg (bC (rootV d ⟨leaf, e, l⟩)).toArray, .int .i64 0]) ∧ Gr w w' := by
  obtain ⟨n, hn⟩ : ∃ n, w.heap.size = n := ⟨_, rfl⟩
  have HN := Lib.hid hn
  obtain ⟨a, c, rfl⟩ := hp.shape
  obtain ⟨N, hN⟩ : ∃ N, l.length = N := ⟨_, rfl⟩
  have HNL := Lib.hid hN
  have hl256 : leaf < 256 := Nat.lt_of_lt_of_le hl (by exact Nat.le_trans (Nat.pow_le_pow_right (by decide) h8) (by decide))
  rw [hN] at hp h1 h8 ⊢
  have hl' : leaf < 2 ^ N := hN ▸ hl
  obtain ⟨U0, hU⟩ : ∃ U0, ((w.alloc (.cells (bC d).toArray 29)).alloc (.cells (sgC (leaf : Int) e (.slice a N c)).toArray 45)).alloc (.cells (bC zAut).toArray 29) = U0 := ⟨_, rfl⟩
  have H0 : Hid (U0.heap[n]? = some (.cells (bC d).toArray 29 (0, 0))) := by
    show _ = _; rw [← hU]
    exact ((((Gr.refl _).alloc _).alloc _).block (by simp; omega)).trans (heap_new _ _ _ (by omega))
  have H1 : Hid (U0.heap[n + 1]? = some (.cells (sgC (leaf : Int) e (.slice a N c)).toArray 45 (0, 0))) := by
    show _ = _; rw [← hU]
    exact (((Gr.refl _).alloc _).block (by simp; omega)).trans (heap_new _ _ _ (by simp; omega))
  have H2 : Hid (U0.heap[n + 1 + 1]? = some (.cells (bC zAut).toArray 29 (0, 0))) := by
    show _ = _; rw [← hU]
    exact heap_new _ _ _ (by simp; omega)
  have HG : Hid (Gr w U0) := by show Gr _ _; rw [← hU]; exact (((Gr.refl w).alloc _).alloc _).alloc _
  have HCK := Lib.hid (sgCheckC leaf e a N c h1 h8 hl')
  have HPU : Hid (∀ W, Kt W → Calls Tryz.prog 105 #[.agg (sgC (leaf : Int) e (.slice a N c)).toArray, .agg (bC d).toArray] W fun x w' => x = .returned (.agg (bC (recV leaf d e)).toArray) ∧ Gr W w') := fun W h => sgPublicC leaf (by omega) e a N c d W h
  have HND : Hid (∀ W, Gr w W → Calls Tryz.prog 107 #[.agg (sgC (leaf : Int) e (.slice a N c)).toArray] W fun x w' => ∃ v, x = .returned v ∧ OwnV 75 w' W.heap.size v l ∧ Gr W w') := fun W hW => nodesC (leaf : Int) e _ l (by rintro rfl; simp at hN; omega) (by omega) W (hp.gr hW)
  obtain ⟨y, hy⟩ : ∃ y, recV leaf d e = y := ⟨_, rfl⟩
  rw [hy] at HPU
  obtain ⟨f, hf⟩ : ∃ f, leafV leaf y.toList = f := ⟨_, rfl⟩
  have HLF : Hid (∀ v W, Kt W → BytG W v y.toList → Calls Tryz.prog 27 #[.int .i64 (leaf : Int), v] W fun e w' => e = .returned (.agg (bC f).toArray) ∧ Gr W w') := fun v W hW hv => by rw [← hf]; exact leafC leaf (by omega) v y.toList (by simp) W hW hv
  obtain ⟨r, hr⟩ : ∃ r, climbV leaf 0 f l = r := ⟨_, rfl⟩
  have HFR : Hid (∀ v W, Kt W → Nds W v l → Calls Tryz.prog 106 #[.agg (bC f).toArray, .int .i64 (leaf : Int), v] W fun e w' => e = .returned (.tuple #[.agg (bC r).toArray, .int .i64 0]) ∧ Gr W w') := fun v W hW hv => by rw [← hr]; exact fromC f leaf v l (by rintro rfl; simp at hN; omega) (by omega) hl W hW hv
  have HRV : Hid (rootV d ⟨leaf, e, l⟩ = r) := by show _ = _; rw [← hr, ← hf, ← hy]; rfl
  rw [HRV.out]
  have HK := Lib.hid hK
  have b1 := bC16_len d
  have b2 := bC16_one d
  have b3 := bC16_len y
  have b4 := bC16_one y
  have b5 := bC16_len r
  have b6 := bC16_one r
  have b7 := bC16_len f
  have b8 := bC16_one f
  have b9 := sgC_one (leaf : Int) e a N c
  have KS : Hid (∀ W, Gr U0 W → W.cell? ⟨n + 1, 0, none⟩ = some (.int .i64 (leaf : Int)) ∧ hasRow W ⟨n + 1, 0, none⟩ 562 = true ∧ rowAt W ⟨n + 1, 0, none⟩ 562 = sgC (leaf : Int) e (.slice a N c)) := fun W hW => by
    have q := sg_facts ((hW.block (lt_of_heap H1.out)).trans H1.out)
    exact ⟨q.c0, q.h0, q.r0⟩
  obtain ⟨s0, s1, s2⟩ := KS.out U0 (Gr.refl U0)
  have s3 := lt_of_heap H1.out
  replace hU := Lib.hid hU
  clear hK hp hy hf hr hl hl'
  go_enter Tryz.func84, Tryz.ntmps84
  go_wp2_with (first
    | (go_at_call 55; rw [hU.out]; refine (HCK.out U0).mono ?_; rintro x w1 ⟨rfl, hg1⟩; clear s0 s1 s2 s3; obtain ⟨s0, s1, s2⟩ := KS.out w1 hg1; have k0 := (hg1.block (lt_of_heap H0.out)).trans H0.out; have q0 := hasRow_block k0 0 16 (by simp [bC16_len]); have q1 := (rowAt_block k0 0 16 (by simp [bC16_len])).trans (rowOf_all _ _ (bC16_len d)); have q2 := lt_of_heap k0; have s3 : n + 1 < w1.heap.size := lt_of_heap ((hg1.block (lt_of_heap H1.out)).trans H1.out))
    | (go_at_call 105; refine (HPU.out w1 (HK.out.gr (HG.out.trans hg1))).mono ?_; rintro x w2 ⟨rfl, hg2⟩))
  have hgA := (hg1.trans hg2).alloc (.cells (bC y).toArray 29)
  have hx9 := heap_alloc_new w2 (.cells (bC y).toArray 29)
  obtain ⟨m, hm⟩ : ∃ m, w2.heap.size = m := ⟨_, rfl⟩
  rw [hm] at hx9 ⊢
  have HBY : Hid (BytG (w2.alloc (.cells (bC y).toArray 29)) (.slice (some ⟨m, 0, none⟩) 16 16) y.toList) := ⟨some ⟨m, 0, none⟩, 16, by simp, by simp, .inr ⟨m, 0, rfl, ByAt.vec hx9⟩⟩
  clear s0 s1 s2 s3 k0 q0 q1 q2 hg1 hg2 hx9 hm
  generalize w2.alloc (.cells (bC y).toArray 29) = U1 at *
  have KS1 : Hid (∀ W, Gr U1 W → W.cell? ⟨n + 1, 0, none⟩ = some (.int .i64 (leaf : Int)) ∧ hasRow W ⟨n + 1, 0, none⟩ 562 = true ∧ rowAt W ⟨n + 1, 0, none⟩ 562 = sgC (leaf : Int) e (.slice a N c)) := fun W hW => KS.out W (hgA.trans hW)
  have HGU := Lib.hid (HG.out.trans hgA)
  have K2 := Lib.hid ((hgA.block (lt_of_heap H2.out)).trans H2.out)
  have hS0 := KS1.out _ (Gr.refl U1).drew
  have hu75 := Tryz.underlying75
  have hi75 : (Tryz.prog.info? 75).map (·.size) = some (bC r).length := by rw [bC16_len]; kernel_rfl
  have hi76 : (Tryz.prog.info? 75).map (·.size) = some 16 := by kernel_rfl
  have ho1 : ∀ v ∈ bC r, v.oneCell' = true := fun v hv => by
    have h := b6
    simp only [oneB, List.all_eq_true] at h
    exact h v hv
  apply wp_toX (R := fun x W' => Hid (W'.heap[x]? = some (.cells (bC r).toArray 75 (0, 0))) ∧ Hid (W'.heap[n + 1 + 1]? = some (.cells (bC zAut).toArray 29 (0, 0))) ∧ Hid (Gr w W'))
  case h =>
    go_region_held3 (fun u => u.cell? ⟨n + 1, 0, none⟩ = some (.int .i64 (leaf : Int)) ∧ hasRow u ⟨n + 1, 0, none⟩ 562 = true ∧ rowAt u ⟨n + 1, 0, none⟩ 562 = sgC (leaf : Int) e (.slice a N c)) (first | exact hS0 | exact KS1.out _ (by repeat' (first | exact Gr.refl _ | assumption | refine Gr.drew ?_ | refine Gr.alloc ?_ _ | refine Gr.setsOwn ?_ (by first | exact Nat.le_refl _ | exact G3.size | exact G4.size | exact G5.size) _ _)))
      (first
        | (go_simp; go_at_call 27; refine (HLF.out _ _ (HK.out.gr (HGU.out.trans (by repeat' (first | exact Gr.refl _ | assumption | refine Gr.drew ?_ | refine Gr.alloc ?_ _ )))) (HBY.out.gr (by repeat' (first | exact Gr.refl _ | assumption | refine Gr.drew ?_ | refine Gr.alloc ?_ _ )))).mono ?_; rintro x w3 ⟨rfl, hg3⟩; have G3 : Gr U1 w3 := Gr.trans (by repeat' (first | exact Gr.refl _ | refine Gr.drew ?_ | refine Gr.alloc ?_ _ )) hg3)
        | (go_simp; go_at_call 107; refine (HND.out _ (HGU.out.trans (by repeat' (first | exact G3 | refine Gr.drew ?_ | refine Gr.alloc ?_ _ )))).mono ?_; rintro x w4 ⟨v, rfl, ho, hg4⟩; obtain ⟨a6, c6, hv6⟩ := ho.shape; rw [HNL.out] at hv6; subst hv6; have G4 : Gr U1 w4 := Gr.trans (by repeat' (first | exact G3 | refine Gr.drew ?_ | refine Gr.alloc ?_ _ )) hg4; have hnd := ho.nds)
        | (go_simp; go_at_call 106; refine (HFR.out _ _ (HK.out.gr (HGU.out.trans (by repeat' (first | exact G4 | refine Gr.drew ?_ | refine Gr.alloc ?_ _ )))) (hnd.gr (by repeat' (first | exact Gr.refl _ | refine Gr.drew ?_ | refine Gr.alloc ?_ _ )))).mono ?_; rintro x w5 ⟨rfl, hg5⟩; have G5 : Gr U1 w5 := Gr.trans (by repeat' (first | exact G4 | refine Gr.drew ?_ | refine Gr.alloc ?_ _ )) hg5; have T0 : (w5.alloc (.cells (bC zAut).toArray 75)).there w5.heap.size 0 16 := there_block (heap_alloc_new w5 _) (bC16_len _);
           first
             | (have T1 : w5.there U1.heap.size 0 16 := there_block ((hg5.block (lt_of_heap ((hg4.block (lt_of_heap hg3.keepNewD)).trans hg3.keepNewD))).trans ((hg4.block (lt_of_heap hg3.keepNewD)).trans hg3.keepNewD)) (bC16_len _))
             | (have T1 : w5.there w3.heap.size 0 16 := there_block ((hg5.block (lt_of_heap hg4.keepNew)).trans hg4.keepNew) (bC16_len _))
             | (have T1 : w5.there w4.heap.size 0 16 := there_block hg5.keepNew (bC16_len _))
             | skip))
    all_goals
      have hk2 : n + 1 + 1 < U1.heap.size := lt_of_heap K2.out
      first
        | (obtain ⟨x, hx⟩ : ∃ x, U1.heap.size = x := ⟨_, rfl⟩
           have hE9 := (hg5.block (lt_of_heap ((hg4.block (lt_of_heap hg3.keepNewD)).trans hg3.keepNewD))).trans ((hg4.block (lt_of_heap hg3.keepNewD)).trans hg3.keepNewD)
           have hxb : U1.heap.size ≤ x := by rw [← hx]; exact Nat.le_refl _
           rw [hx] at hE9
           have hR : Hid ((w5.setCells x 0 (bC r)).heap[x]? = some (.cells (bC r).toArray 75 (0, 0))) ∧ Hid ((w5.setCells x 0 (bC r)).heap[n + 1 + 1]? = some (.cells (bC zAut).toArray 29 (0, 0))) ∧ Hid (Gr w (w5.setCells x 0 (bC r))) := ⟨sets_whole hE9 (by simp [bC16_len]), (sets_other (by omega) _ _ _).trans ((G5.block hk2).trans K2.out), (HGU.out.trans G5).setsOwn (b := x) (by have := HGU.out.size; omega) _ 0⟩
           rw [hx]
           exact ⟨x, a6, c6, hR, rfl⟩)
        | (obtain ⟨x, hx⟩ : ∃ x, w3.heap.size = x := ⟨_, rfl⟩
           have hE9 := (hg5.block (lt_of_heap hg4.keepNew)).trans hg4.keepNew
           have hxb : U1.heap.size ≤ x := by rw [← hx]; exact G3.size
           rw [hx] at hE9
           have hR : Hid ((w5.setCells x 0 (bC r)).heap[x]? = some (.cells (bC r).toArray 75 (0, 0))) ∧ Hid ((w5.setCells x 0 (bC r)).heap[n + 1 + 1]? = some (.cells (bC zAut).toArray 29 (0, 0))) ∧ Hid (Gr w (w5.setCells x 0 (bC r))) := ⟨sets_whole hE9 (by simp [bC16_len]), (sets_other (by omega) _ _ _).trans ((G5.block hk2).trans K2.out), (HGU.out.trans G5).setsOwn (b := x) (by have := HGU.out.size; omega) _ 0⟩
           rw [hx]
           exact ⟨x, a6, c6, hR, rfl⟩)
        | (obtain ⟨x, hx⟩ : ∃ x, w4.heap.size = x := ⟨_, rfl⟩
           have hE9 := hg5.keepNew
           have hxb : U1.heap.size ≤ x := by rw [← hx]; exact G4.size
           rw [hx] at hE9
           have hR : Hid ((w5.setCells x 0 (bC r)).heap[x]? = some (.cells (bC r).toArray 75 (0, 0))) ∧ Hid ((w5.setCells x 0 (bC r)).heap[n + 1 + 1]? = some (.cells (bC zAut).toArray 29 (0, 0))) ∧ Hid (Gr w (w5.setCells x 0 (bC r))) := ⟨sets_whole hE9 (by simp [bC16_len]), (sets_other (by omega) _ _ _).trans ((G5.block hk2).trans K2.out), (HGU.out.trans G5).setsOwn (b := x) (by have := HGU.out.size; omega) _ 0⟩
           rw [hx]
           exact ⟨x, a6, c6, hR, rfl⟩)
        | (obtain ⟨x, hx⟩ : ∃ x, w5.heap.size = x := ⟨_, rfl⟩
           have hR : Hid ((w5.alloc (.cells (bC r).toArray 75)).heap[x]? = some (.cells (bC r).toArray 75 (0, 0))) ∧ Hid ((w5.alloc (.cells (bC r).toArray 75)).heap[n + 1 + 1]? = some (.cells (bC zAut).toArray 29 (0, 0))) ∧ Hid (Gr w (w5.alloc (.cells (bC r).toArray 75))) := ⟨heap_new _ _ _ hx.symm, (((Gr.refl w5).alloc _).block (by have := G5.size; omega)).trans ((G5.block hk2).trans K2.out), (HGU.out.trans G5).alloc _⟩
           rw [hx]
           exact ⟨x, a6, c6, hR, rfl⟩)
        | (obtain ⟨x, hx⟩ : ∃ x, w5.heap.size = x := ⟨_, rfl⟩
           have hR : Hid (((w5.alloc (.cells (bC zAut).toArray 75)).setCells x 0 (bC r)).heap[x]? = some (.cells (bC r).toArray 75 (0, 0))) ∧ Hid (((w5.alloc (.cells (bC zAut).toArray 75)).setCells x 0 (bC r)).heap[n + 1 + 1]? = some (.cells (bC zAut).toArray 29 (0, 0))) ∧ Hid (Gr w ((w5.alloc (.cells (bC zAut).toArray 75)).setCells x 0 (bC r))) := ⟨sets_whole (heap_new _ _ _ hx.symm) (by simp [bC16_len]), (sets_other (by have := G5.size; omega) _ _ _).trans ((((Gr.refl w5).alloc _).block (by have := G5.size; omega)).trans ((G5.block hk2).trans K2.out)), ((HGU.out.trans G5).alloc _).setsOwn (b := x) (by have := HGU.out.size; have := G5.size; omega) _ 0⟩
           rw [hx]
           exact ⟨x, a6, c6, hR, rfl⟩)
        | trace_state
  rintro x s6 c6 W ⟨hx, hz, hGW⟩
  have q0 := hasRow_block hx.out 0 16 (by simp [bC16_len])
  have q1 := (rowAt_block hx.out 0 16 (by simp [bC16_len])).trans (rowOf_all _ _ (bC16_len r))
  have q2 := lt_of_heap hx.out
  have q3 := hasRow_block hz.out 0 16 (by simp [bC16_len])
  have q4 := freeRow_block hz.out 0 16
  have q5 := lt_of_heap hz.out
  go_wp2_with fail
  have HE : Hid ((W.setCells (n + 1 + 1) 0 (bC r)).heap[n + 1 + 1]? = some (.cells (bC r).toArray 29 (0, 0))) := sets_whole hz.out (by simp [bC16_len])
  have HG7 := Lib.hid (hGW.out.setsOwn (b := n + 1 + 1) (by have := HN.out; omega) (bC r) 0)
  refine bodyPost_ret (results_cellT rfl _ _ (n + 1 + 1) _ _ _ _ rfl HE.out Tryz.underlying29 rfl (sizeV16 _)) rfl ?_
  exact ⟨rfl, HG7.out⟩
end Go.Proofs.YteknmbijodbfoaaGreatDoor

namespace Go.Proofs.YteknmbijodbfoaaGreatDoor
open Go.RowKit

theorem pub_facts {W : World} {b : Nat} {h : Int} {r : V16} (hb : W.heap[b]? = some (.cells (pubC h r).toArray 31 (0, 0))) : W.cell? ⟨b, 0, none⟩ = some (.int .i64 h) ∧ hasRow W ⟨b, 1, none⟩ 16 = true ∧ rowAt W ⟨b, 1, none⟩ 16 = bC r ∧ hasRow W ⟨b, 0, none⟩ 17 = true ∧ rowAt W ⟨b, 0, none⟩ 17 = pubC h r ∧ b < W.heap.size :=
  ⟨cell_block hb 0, hasRow_block hb 1 16 (by rw [pubC_length]; decide), (rowAt_block hb 1 16 (by rw [pubC_length]; decide)).trans (by
    show rowOf (.int .i64 h :: bC r) 1 16 = _
    rw [rowOf_cons _ _ _ _ (by decide), rowOf_all _ _ (bC16_len _)]), hasRow_block hb 0 17 (by rw [pubC_length]; decide), (rowAt_block hb 0 17 (by rw [pubC_length]; decide)).trans (rowOf_all _ _ (pubC_length h r)), lt_of_heap hb⟩
set_option maxRecDepth 100000 in
set_option maxHeartbeats 4000000 in
theorem verifyC (h : Int) (rt : V16) (hh : 1 ≤ h ∧ h ≤ 8) (leaf : Nat) (e : Nat → V16) (p : Value) (l : List V16) (d : V16) (h1 : 1 ≤ l.length) (h8 : l.length ≤ 8) (hl : leaf < 2 ^ l.length) (w : World) (hK : Kt w) (hp : Nds w p l) :
    Calls Tryz.prog 56 #[.agg (pubC h rt).toArray, .agg (bC d).toArray, .agg (sgC (leaf : Int) e p).toArray] w fun x w' => x = .returned (.int .i64 (if (l.length : Int) ≠ h ∨ rootV d ⟨leaf, e, l⟩ ≠ rt then 17 else 0)) ∧ Gr w w' := by
  obtain ⟨n, hn⟩ : ∃ n, w.heap.size = n := ⟨_, rfl⟩
  have HN := Lib.hid hn
  obtain ⟨a, c, rfl⟩ := hp.shape
  obtain ⟨N, hN⟩ : ∃ N, l.length = N := ⟨_, rfl⟩
  obtain ⟨U0, hU⟩ : ∃ U0, ((w.alloc (.cells (pubC h rt).toArray 31)).alloc (.cells (bC d).toArray 29)).alloc (.cells (sgC (leaf : Int) e (.slice a N c)).toArray 45) = U0 := ⟨_, rfl⟩
  have H0 : Hid (U0.heap[n]? = some (.cells (pubC h rt).toArray 31 (0, 0))) := by
    show _ = _; rw [← hU]
    exact ((((Gr.refl _).alloc _).alloc _).block (by simp; omega)).trans (heap_new _ _ _ (by omega))
  have H1 : Hid (U0.heap[n + 1]? = some (.cells (bC d).toArray 29 (0, 0))) := by
    show _ = _; rw [← hU]
    exact (((Gr.refl _).alloc _).block (by simp; omega)).trans (heap_new _ _ _ (by simp; omega))
  have H2 : Hid (U0.heap[n + 1 + 1]? = some (.cells (sgC (leaf : Int) e (.slice a N c)).toArray 45 (0, 0))) := by
    show _ = _; rw [← hU]
    exact heap_new _ _ _ (by simp; omega)
  have HG : Hid (Gr w U0) := by show Gr _ _; rw [← hU]; exact (((Gr.refl w).alloc _).alloc _).alloc _
  have HCK : Hid (∀ W, Calls Tryz.prog 14 #[.agg (pubC h rt).toArray] W fun e w' => e = .returned (.int .i64 0) ∧ Gr W w') := fun W => by
    have hc := pubCheckC h rt W
    rw [show heightErr h = 0 by unfold heightErr; rw [if_neg (by omega)]] at hc; exact hc
  have HRT : Hid (∀ W, Gr w W → Calls Tryz.prog 84 #[.agg (bC d).toArray, .agg (sgC (leaf : Int) e (.slice a N c)).toArray] W fun x w' => x = .returned (.tuple #[.agg (bC (rootV d ⟨leaf, e, l⟩)).toArray, .int .i64 0]) ∧ Gr W w') := fun W hW => by
    have := rootC leaf e (.slice a l.length c) l d h1 h8 hl W (hK.gr hW) (hp.gr hW)
    rw [hN] at this; exact this
  rw [hN]
  generalize rootV d ⟨leaf, e, l⟩ = r at *
  have hne : ∀ W, Sem.run Tryz.prog (binOp .neq 29 (.agg (bC r).toArray) (.agg (bC rt).toArray)) W = .ok (.bool (!(r == rt))) W := fun W => neq_bytes Tryz.underlying29 Tryz.underlying5 (by kernel_rfl) r rt W
  have b1 := bC16_len d
  have b2 := bC16_one d
  have b3 := bC16_len r
  have b4 := bC16_one r
  have b5 := bC16_len rt
  have b6 := bC16_one rt
  have b7 := pubC_one h rt
  have b8 := pubC_length h rt
  have b9 := sgC_one (leaf : Int) e a N c
  have KS : Hid (∀ W, Gr U0 W → W.heap[n]? = some (.cells (pubC h rt).toArray 31 (0, 0)) ∧ W.heap[n + 1]? = some (.cells (bC d).toArray 29 (0, 0)) ∧ W.heap[n + 1 + 1]? = some (.cells (sgC (leaf : Int) e (.slice a N c)).toArray 45 (0, 0))) := fun W hW => ⟨(hW.block (lt_of_heap H0.out)).trans H0.out, (hW.block (lt_of_heap H1.out)).trans H1.out, (hW.block (lt_of_heap H2.out)).trans H2.out⟩
  obtain ⟨p0, p1, p2, p3, p4, p5⟩ := pub_facts H0.out
  replace hU := Lib.hid hU
  clear hK hp hl h1 h8
  by_cases hx : (N : Int) ≠ h ∨ r ≠ rt
  · rw [if_pos hx]
    have hb : ((N : Int) != h) = true ∨ (((N : Int) != h) = false ∧ (r == rt) = false) := by
      by_cases h1 : (N : Int) = h
      · right
        refine ⟨by simp [h1], beq_eq_false_iff_ne.2 (hx.resolve_left (fun h => h h1))⟩
      · left; simp [h1]
    clear hx
    rcases hb with hb | ⟨hb, hb2⟩
    all_goals
      go_enter Tryz.func56, Tryz.ntmps56
      go_wp2_with (first
        | (go_at_call 14; rw [hU.out]; refine (HCK.out U0).mono ?_; rintro x w1 ⟨rfl, hg1⟩; clear p0 p1 p2 p3 p4 p5; obtain ⟨k0, k1, k2⟩ := KS.out w1 hg1; have q0 := hasRow_block k1 0 16 (by simp [bC16_len]); have q1 := (rowAt_block k1 0 16 (by simp [bC16_len])).trans (rowOf_all _ _ (bC16_len d)); have q2 := lt_of_heap k1; have q3 := (sg_facts k2).h0; have q4 := (sg_facts k2).r0; have q5 := (sg_facts k2).z; clear k0 k1 k2)
        | (go_at_call 84; refine (HRT.out w1 (HG.out.trans hg1)).mono ?_; rintro x w2 ⟨rfl, hg2⟩; have hgA := (hg1.trans hg2).alloc (.cells (bC r).toArray 29); have hx9 := heap_alloc_new w2 (.cells (bC r).toArray 29); have y4 := hasRow_block hx9 0 16 (by simp [bC16_len]); have y5 := (rowAt_block hx9 0 16 (by simp [bC16_len])).trans (rowOf_all _ _ (bC16_len r)); have y6 := lt_of_heap hx9; obtain ⟨k0, k1, k2⟩ := KS.out _ hgA; obtain ⟨p0, p1, p2, p3, p4, p5⟩ := pub_facts k0; have q6 := (sg_facts k2).cp; have q7 := (sg_facts k2).z; have HGA := Lib.hid (HG.out.trans hgA)))
      go_ret
      exact ⟨rfl, HGA.out⟩
  · rw [if_neg hx]
    have hb : ((N : Int) != h) = false := by
      by_cases h1 : (N : Int) = h
      · simp [h1]
      · exact absurd (.inl h1) hx
    have hb2 : (r == rt) = true := by
      by_cases h1 : r = rt
      · simp [h1]
      · exact absurd (.inr h1) hx
    clear hx
    go_enter Tryz.func56, Tryz.ntmps56
    go_wp2_with (first
      | (go_at_call 14; rw [hU.out]; refine (HCK.out U0).mono ?_; rintro x w1 ⟨rfl, hg1⟩; clear p0 p1 p2 p3 p4 p5; obtain ⟨k0, k1, k2⟩ := KS.out w1 hg1; have q0 := hasRow_block k1 0 16 (by simp [bC16_len]); have q1 := (rowAt_block k1 0 16 (by simp [bC16_len])).trans (rowOf_all _ _ (bC16_len d)); have q2 := lt_of_heap k1; have q3 := (sg_facts k2).h0; have q4 := (sg_facts k2).r0; have q5 := (sg_facts k2).z; clear k0 k1 k2)
      | (go_at_call 84; refine (HRT.out w1 (HG.out.trans hg1)).mono ?_; rintro x w2 ⟨rfl, hg2⟩; have hgA := (hg1.trans hg2).alloc (.cells (bC r).toArray 29); have hx9 := heap_alloc_new w2 (.cells (bC r).toArray 29); have y4 := hasRow_block hx9 0 16 (by simp [bC16_len]); have y5 := (rowAt_block hx9 0 16 (by simp [bC16_len])).trans (rowOf_all _ _ (bC16_len r)); have y6 := lt_of_heap hx9; obtain ⟨k0, k1, k2⟩ := KS.out _ hgA; obtain ⟨p0, p1, p2, p3, p4, p5⟩ := pub_facts k0; have q6 := (sg_facts k2).cp; have q7 := (sg_facts k2).z; have HGA := Lib.hid (HG.out.trans hgA)))
    go_ret
    exact ⟨rfl, HGA.out⟩
end Go.Proofs.YteknmbijodbfoaaGreatDoor

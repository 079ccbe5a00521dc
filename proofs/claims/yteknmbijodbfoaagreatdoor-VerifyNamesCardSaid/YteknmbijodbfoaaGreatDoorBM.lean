/- slices.Grow and slices.Concat of bytes. merkle.Leaf, Join. Slices of values of 16 bytes (nodes). merkle.check, grow, Root, siblings, Path at two leaves. merkle.Root, siblings, Path at two leaves. merkle.climb, From. merkle.climb, From. -/
import Derived.Test.YteknmbijodbfoaaGreatDoorBT
import Derived.Lib.AppendZeros
import Derived.Test.YteknmbijodbfoaaGreatDoorBE
import Derived.Lib.SliceRun
import Derived.LoopN
import Derived.Deep.RegionHeld3
namespace Go.Proofs.YteknmbijodbfoaaGreatDoor
open Go.RowKit

theorem BytG.sl {W : World} {v : Value} {l : List UInt8} (h : BytG W v l) : SlAt W v 1 (rowsU l) := by
  obtain ⟨a, c, rfl, hc, h3⟩ := h
  by_cases h0 : l = []
  · subst h0
    exact ⟨a, c, rfl, by simp [rowsU], fun j hj => by simp [rowsU] at hj⟩
  · obtain ⟨g, o, rfl, hb⟩ := h3.resolve_left h0
    exact hb.sl _ _ rfl hc
theorem OwnU.base {W : World} {b b' : Nat} {v : Value} {l : List UInt8} (h : OwnU W b v l) (hb : b' ≤ b) : OwnU W b' v l := by
  obtain ⟨h1, h2⟩ := h
  refine ⟨h1, h2.imp id ?_⟩
  rintro ⟨g, cap, cur, e1, e2, e3⟩
  exact ⟨g, cap, cur, e1, Nat.le_trans hb e2, e3⟩
def catL (lf : Nat → List UInt8) (k : Nat) : List UInt8 := (List.range k).flatMap lf
theorem catL_succ (lf : Nat → List UInt8) (k : Nat) : catL lf (k + 1) = catL lf k ++ lf k := by
  unfold catL; rw [List.range_succ, List.flatMap_append]; simp
theorem catL_mono (lf : Nat → List UInt8) (k : Nat) : ∀ n, k ≤ n → (catL lf k).length ≤ (catL lf n).length
  | 0, h => by rw [Nat.le_zero.1 h]; exact Nat.le_refl _
  | n + 1, h => by
    by_cases e : k = n + 1
    · rw [e]; exact Nat.le_refl _
    · have := catL_mono lf k n (by omega)
      rw [catL_succ, List.length_append]; omega
theorem own_grow (w : World) (n : Nat) (h0 : 0 < n) (hn : n ≤ 1000000) : OwnU (w.drew.alloc (.cells (Builtin.zeroCells #[.int .u8 0] n ++ Builtin.zeroCells #[.int .u8 0] (grownCap w n 0 5 - n)) 5)) w.heap.size (.slice (some ⟨w.heap.size, 0, none⟩) 0 (grownCap w n 0 5)) [] := by
  have hge := grownCap_ge w n 0 5
  refine ⟨by simp, .inr ⟨w.heap.size, grownCap w n 0 5, _, rfl, Nat.le_refl _, heap_alloc_new w.drew _, Nat.zero_le _, grownCap_le_maxLen w n 0 _ (by unfold maxLen; omega), ?_, by simp⟩⟩
  rw [Array.size_append, size_zeroCells, size_zeroCells]
  show n * 1 + (grownCap w n 0 5 - n) * 1 = _
  omega
set_option maxRecDepth 100000 in
set_option maxHeartbeats 2000000 in
theorem growC (n : Nat) (h0 : 0 < n) (hn : n ≤ 1000000) (w : World) : Calls Tryz.prog 63 #[.slice none 0 0, .int .i64 (n : Int)] w fun e w' => ∃ v, e = .returned v ∧ OwnU w' w.heap.size v [] ∧ Gr w w' := by
  obtain ⟨i, hi, hzz⟩ := Option.map_eq_some_iff.1 infoU0
  simp only [Prod.mk.injEq] at hzz
  obtain ⟨hz, hs, hb⟩ := hzz
  have hr := Lib.run_append_nil_zeros (P := Tryz.prog) w 60 3 60 5 i (.int .u8 0) .i64 .i64 Tryz.underlying60 Tryz.underlying3 hi hz n h0 (by omega) (by omega) (by rw [hb]; omega)
  have HR := Lib.hid hr
  have HO := Lib.hid (own_grow w n h0 hn)
  have HG : Hid (Gr w (w.drew.alloc (.cells (Builtin.zeroCells #[.int .u8 0] n ++ Builtin.zeroCells #[.int .u8 0] (grownCap w n 0 5 - n)) 5))) := (Gr.refl w).drew.alloc _
  have n0 : (0 : Int) < (n : Int) := by omega
  have n1 : ¬ (n : Int) < 0 := by omega
  have hcap := grownCap_ge w n 0 5
  have HRC : Hid ((Builtin.append_ #[60, 3] 60 #[.slice none 0 0, .int .i64 (n : Int)]).run Tryz.prog w = .ok (.slice (some ⟨w.heap.size, 0, none⟩) n (grownCap w n 0 5)) (w.drew.alloc (.cells (Builtin.zeroCells #[.int .u8 0] n ++ Builtin.zeroCells #[.int .u8 0] (grownCap w n 0 5 - n)) 5))) := HR.out
  clear hr HR hi hz hs hb
  generalize w.drew.alloc (.cells (Builtin.zeroCells #[.int .u8 0] n ++ Builtin.zeroCells #[.int .u8 0] (grownCap w n 0 5 - n)) 5) = W1 at *
  generalize grownCap w n 0 5 = cp at *
  go_enter Tryz.func63, Tryz.ntmps63
  go_wp2_with (at_builtin; refine Lib.wpList_append_run _ rfl _ _ _ _ rfl _ _ rfl rfl _ _ HRC.out ?_)
  go_ret
  exact ⟨_, rfl, HO.out, HG.out⟩
set_option maxRecDepth 100000 in
set_option maxHeartbeats 2000000 in
theorem concatC (g N c : Nat) (vf : Nat → Value) (lf : Nat → List UInt8) (w : World) (h0 : 0 < (catL lf N).length) (h9 : (catL lf N).length ≤ 900000) (hN : N ≤ 1000) (hg : g < w.heap.size)
    (hv : ∀ j, j < N → w.cell? ⟨g, j, none⟩ = some (vf j) ∧ BytG w (vf j) (lf j)) :
    Calls Tryz.prog 39 #[.slice (some ⟨g, 0, none⟩) N c] w fun e w' => ∃ v, e = .returned v ∧ OwnU w' w.heap.size v (catL lf N) ∧ Gr w w' := by
  have HV := Lib.hid hv
  have HM : Hid (∀ k, k ≤ N → (catL lf k).length ≤ (catL lf N).length) := fun k hk => catL_mono lf k N hk
  have HSU := Lib.hid (catL_succ lf)
  have H0 := Lib.hid h0
  have H9 := Lib.hid h9
  have hc0 : N ≤ N := Nat.le_refl _
  clear hv
  go_enter Tryz.func39, Tryz.ntmps39
  go_wp2_with fail
  go_loopw [3, 5, 11, 12, 13, 14, 15, 16, 17, 18, 19, 20, 21, 22] (fun s _ i _ _ _ _ _ _ _ _ _ _ _ wr => ∃ k : Nat, k ≤ N ∧ i = .int .i64 (k : Int) ∧ s = .int .i64 ((catL lf k).length : Int) ∧ Hid (Gr w wr)) (fun _ _ i _ _ _ _ _ _ _ _ _ _ _ _ => N - (intOf i).toNat)
  case atStart => exact ⟨0, Nat.zero_le _, rfl, rfl, Gr.refl w⟩
  case round =>
    obtain ⟨k, hk, rfl, rfl, hG⟩ := hrel
    have HM1 := HM.out k hk
    obtain ⟨q, hq⟩ : ∃ q, (catL lf k).length = q := ⟨_, rfl⟩
    rw [hq] at HM1 ⊢
    by_cases hlt : k < N
    · have hk1 : (k : Int) < (N : Int) := by omega
      have hk2 : (0 : Int) ≤ (k : Int) := by omega
      obtain ⟨c4, hb⟩ := HV.out k hlt
      replace c4 := (hG.out.cell (p := ⟨g, k, none⟩) hg).trans c4
      have hgz : g < wr.heap.size := Nat.lt_of_lt_of_le hg hG.out.size
      obtain ⟨a, d, hvk, hd, -⟩ := hb
      rw [hvk] at c4
      have hs1 := HSU.out k
      have HM2 := HM.out (k + 1) hlt
      have hs2 : (catL lf (k + 1)).length = q + (lf k).length := by rw [hs1, List.length_append, hq]
      obtain ⟨r, hr⟩ : ∃ r, (lf k).length = r := ⟨_, rfl⟩
      rw [hr] at c4 hs2 hd
      have e1 : IntKind.i64.wrap ((q : Int) + (r : Int)) = ((q + r : Nat) : Int) := by rw [IntKind.wrap_i64]; omega
      have e2 : ¬ (((q + r : Nat) : Int) < 0) := by omega
      have e3 : ¬ ((q : Int) + (r : Int) < 0) := by omega
      have e4 : (0 : Int) ≤ (q : Int) + (r : Int) := by omega
      clear HM1 hs1 hvk
      go_wp2_with fail
      go_roundw
      case rel => exact ⟨k + 1, by omega, by go_num, by rw [hs2]; simp, hG.out⟩
      case measure => simp [intOf]; omega
    · have hkN : k = N := by omega
      rw [← hq, hkN]
      have HGC := Lib.hid (growC (catL lf N).length H0.out (by have := H9.out; omega) wr)
      obtain ⟨T, hT⟩ : ∃ T, (catL lf N).length = T := ⟨_, rfl⟩
      rw [hT] at HGC H0 H9 HM ⊢
      have HT := Lib.hid hT
      clear hq HM1 hT
      go_wp2_with (go_at_call 63; refine HGC.out.mono ?_; rintro e w1 ⟨v0, rfl, ho, hg1⟩)
      have HO := Lib.hid (ho.base hG.out.size)
      have HG1 := Lib.hid (hG.out.trans hg1)
      clear ho hg1 HGC
      go_wp2_with fail
      go_loopw [6, 8, 27, 28, 29, 30, 31, 32, 33, 34] (fun s _ i _ _ _ _ _ _ _ wr => ∃ k : Nat, k ≤ N ∧ i = .int .i64 (k : Int) ∧ Hid (OwnU wr w.heap.size s (catL lf k)) ∧ Hid (Gr w wr)) (fun _ _ i _ _ _ _ _ _ _ _ => N - (intOf i).toNat)
      case atStart => exact ⟨0, Nat.zero_le _, rfl, HO.out, HG1.out⟩
      case round =>
        obtain ⟨k, hk, rfl, hO, hG⟩ := hrel
        by_cases hlt : k < N
        · have hk1 : (k : Int) < (N : Int) := by omega
          have hk2 : (0 : Int) ≤ (k : Int) := by omega
          obtain ⟨c4, hb⟩ := HV.out k hlt
          have HSL := Lib.hid ((hb.gr hG.out).sl)
          have c5 : wr.cell? ⟨g, k, none⟩ = some (vf k) := (hG.out.cell hg).trans c4
          obtain ⟨v, hvv⟩ : ∃ v, vf k = v := ⟨_, rfl⟩
          rw [hvv] at c5 HSL
          have HM2 := HM.out (k + 1) hlt
          rw [HSU.out k, List.length_append] at HM2
          have hs9 := H9.out
          obtain ⟨a6, c6, rfl⟩ := hO.out.shape
          have hz9 : w.heap.size ≤ wr.heap.size := hG.out.size
          have hgz : g < wr.heap.size := by omega
          clear hb hvv c4
          go_wp2_with (at_builtin; refine wpList_append_u8v _ rfl _ _ rfl w.heap.size (.slice a6 (catL lf k).length c6) (catL lf k) (by simp [Act.eval]) hO.out v (lf k) (by simp [Act.eval]) HSL.out ((catL lf k).length + (lf k).length) rfl (by omega) hz9 ?_; intro a3 n3 w3 ho3 hg3)
          go_roundw
          case rel => exact ⟨k + 1, by omega, by go_num, by show Hid _; rw [HSU.out k]; exact ho3, hG.out.grown hg3 (fun q hq => (World.ownsRow.lt hO.out q hq).1)⟩
          case measure => simp [intOf]; omega
        · have hkN : k = N := by omega
          subst hkN
          go_wp2_with fail
          go_ret
          exact ⟨_, rfl, hO.out, hG.out⟩
end Go.Proofs.YteknmbijodbfoaaGreatDoor

namespace Go.Proofs.YteknmbijodbfoaaGreatDoor
open Go.RowKit

theorem drew_atV {x : World} {b : Nat} {o : Obj} (h : x.heap[b]? = some o) : x.drew.heap[b]? = some o := h
def pick2 {α : Type} (a b : α) : Nat → α := fun j => if j = 0 then a else b
def pick3 {α : Type} (a b c : α) : Nat → α := fun j => if j = 0 then a else if j = 1 then b else c
theorem catL_two (a b : List UInt8) : catL (pick2 a b) 2 = a ++ b := by simp [catL, pick2, List.range_succ]
theorem catL_three (a b c : List UInt8) : catL (pick3 a b c) 3 = a ++ b ++ c := by simp [catL, pick3, List.range_succ]
@[go_sem ↓ high] theorem zeroNode (w : World) : Sem.run Tryz.prog (zeroValue 75) w = .ok (.agg (bC zAut).toArray) w := by kernel_rfl
@[go_sem] theorem aggNode : aggB Tryz.prog 75 = true := by kernel_rfl
@[go_sem] theorem cellsNode : Tryz.prog.cellsOf 75 = 16 := by kernel_rfl
theorem sizeNode (x : V16) : (Tryz.prog.info? 75).map (fun x => x.size) = some (bC x).toArray.size := by
  rw [List.size_toArray, bC16_len]; kernel_rfl
set_option maxRecDepth 100000 in
set_option maxHeartbeats 2000000 in
theorem leafC (i : Nat) (hi : i < 4294967296) (v : Value) (b : List UInt8) (hb9 : b.length ≤ 1000) (w : World) (hK : Kt w) (hv : BytG w v b) : Calls Tryz.prog 27 #[.int .i64 (i : Int), v] w fun e w' => e = .returned (.agg (bC (leafV i b)).toArray) ∧ Gr w w' := by
  obtain ⟨n, hn⟩ : ∃ n, w.heap.size = n := ⟨_, rfl⟩
  have HN := Lib.hid hn
  have e0 : IntKind.u32.wrap (i : Int) = (i : Int) := by rw [IntKind.wrap_u32]; omega
  have e1 := byte_shr i 24
  have e2 := byte_shr i 16
  have e3 := byte_shr i 8
  have e4 := byte_of i
  have i0 : (0 : Int) ≤ (i : Int) := by omega
  have HI : Hid (inp 0 i = [0, UInt8.ofNat (i / 2 ^ 24), UInt8.ofNat (i / 2 ^ 16), UInt8.ofNat (i / 2 ^ 8), UInt8.ofNat i]) := rfl
  have HLV : Hid (half (inp 0 i ++ b) = leafV i b) := rfl
  have HIL := Lib.hid (inp_len 0 i)
  generalize leafV i b = y at *
  generalize inp 0 i = l at *
  generalize UInt8.ofNat (i / 2 ^ 24) = b1 at *
  generalize UInt8.ofNat (i / 2 ^ 16) = b2 at *
  generalize UInt8.ofNat (i / 2 ^ 8) = b3 at *
  generalize UInt8.ofNat i = b4 at *
  have e1' : IntKind.u8.wrap ((i : Int) / 16777216) = (b1.toNat : Int) := e1
  have e2' : IntKind.u8.wrap ((i : Int) / 65536) = (b2.toNat : Int) := e2
  have e3' : IntKind.u8.wrap ((i : Int) / 256) = (b3.toNat : Int) := e3
  clear e1 e2 e3
  have HV := Lib.hid hv
  have HK := Lib.hid hK
  obtain ⟨a, c, rfl, hc, -⟩ := hv
  obtain ⟨U0, hU⟩ : ∃ U0, ((w.alloc (.cells (bC zAut).toArray 75)).alloc (.cells #[.int .u8 0, .int .u8 (b1.toNat : Int), .int .u8 (b2.toNat : Int), .int .u8 (b3.toNat : Int), .int .u8 (b4.toNat : Int)] 5)).alloc (.cells #[.slice (some ⟨n + 1, 0, none⟩) 5 5, .slice a b.length c] 60) = U0 := ⟨_, rfl⟩
  have H0 : Hid (U0.heap[n]? = some (.cells (bC zAut).toArray 75 (0, 0))) := by
    show _ = _; rw [← hU]
    exact ((((Gr.refl _).alloc _).alloc _).block (by simp; omega)).trans (heap_new _ _ _ (by omega))
  have H1 : Hid (OwnU U0 n (.slice (some ⟨n + 1, 0, none⟩) 5 5) l) := by
    show OwnU _ _ _ _
    rw [HI.out]
    exact OwnU.made (l := [0, b1, b2, b3, b4]) (by rw [← hU]; exact (((Gr.refl _).alloc _).block (by simp; omega)).trans (heap_new _ _ _ (by simp; omega))) (Nat.le_succ _) (by simp)
  have H2 : Hid (U0.heap[n + 1 + 1]? = some (.cells #[.slice (some ⟨n + 1, 0, none⟩) 5 5, .slice a b.length c] 60 (0, 0))) := by
    show _ = _; rw [← hU]
    exact heap_new _ _ _ (by simp; omega)
  have HG : Hid (Gr w U0) := by show Gr _ _; rw [← hU]; exact (((Gr.refl w).alloc _).alloc _).alloc _
  have HC := Lib.hid (concatC (n + 1 + 1) 2 2 (pick2 (.slice (some ⟨n + 1, 0, none⟩) 5 5) (.slice a b.length c)) (pick2 l b) U0 (by rw [catL_two, List.length_append, HIL.out]; omega) (by rw [catL_two, List.length_append, HIL.out]; omega) (by decide) (lt_of_heap H2.out) (fun j hj => by
    have h : j = 0 ∨ j = 1 := by omega
    rcases h with rfl | rfl
    · exact ⟨cell_block (cs := [.slice (some ⟨n + 1, 0, none⟩) 5 5, .slice a b.length c]) H2.out 0, H1.out.bytG⟩
    · exact ⟨cell_block (cs := [.slice (some ⟨n + 1, 0, none⟩) 5 5, .slice a b.length c]) H2.out 1, HV.out.gr HG.out⟩))
  rw [catL_two] at HC
  have HSZ : Hid ((l ++ b).length ≤ 900000) := by show _ ≤ _; rw [List.length_append, HIL.out]; omega
  have c1 := bC16_len y
  have c2 := bC16_one y
  replace hU := Lib.hid hU
  clear hK hc HI
  go_enter Tryz.func27, Tryz.ntmps27
  go_wp2_with (first
    | (go_at_call 39; rw [hU.out]; refine HC.out.mono ?_; rintro e w1 ⟨v1, rfl, ho, hg1⟩)
    | (go_at_call 15; refine (sumHalfC v1 _ w1 (HK.out.gr (HG.out.trans hg1)) HSZ.out ho.bytG).mono ?_; rw [HLV.out]; rintro e w2 ⟨rfl, hg2⟩; have HG2 := Lib.hid ((HG.out.trans hg1).trans hg2); have K0 := Lib.hid (((hg1.trans hg2).block (lt_of_heap H0.out)).trans H0.out); have z0 := hasRow_block K0.out 0 16 (by simp [bC16_len]); have z1 := freeRow_block K0.out 0 16; have z2 := lt_of_heap K0.out))
  have HE : Hid ((w2.setCells n 0 (bC y)).heap[n]? = some (.cells (bC y).toArray 75 (0, 0))) := sets_whole K0.out (by simp [bC16_len])
  have HG7 := Lib.hid (HG2.out.setsOwn (b := n) (by have := HN.out; omega) (bC y) 0)
  refine bodyPost_ret (results_cell_row rfl _ _ n _ _ _ _ rfl HE.out Tryz.underlying75 rfl (sizeNode _)) rfl ?_
  exact ⟨rfl, HG7.out⟩
set_option maxRecDepth 100000 in
set_option maxHeartbeats 2000000 in
theorem joinC (level : Nat) (a b : V16) (w : World) (hK : Kt w) : Calls Tryz.prog 60 #[.int .i64 (level : Int), .agg (bC a).toArray, .agg (bC b).toArray] w fun e w' => e = .returned (.agg (bC (joinV level a b)).toArray) ∧ Gr w w' := by
  obtain ⟨n, hn⟩ : ∃ n, w.heap.size = n := ⟨_, rfl⟩
  have HN := Lib.hid hn
  obtain ⟨x, hx⟩ : ∃ x, UInt8.ofNat level = x := ⟨_, rfl⟩
  have e1 : IntKind.u8.wrap (level : Int) = (x.toNat : Int) := by rw [← hx]; exact byte_of level
  have HLV : Hid (half ([1, x] ++ a.toList ++ b.toList) = joinV level a b) := by show _ = _; rw [← hx]; rfl
  generalize joinV level a b = y at *
  obtain ⟨U0, hU⟩ : ∃ U0, ((w.alloc (.cells (bC a).toArray 75)).alloc (.cells (bC b).toArray 75)).alloc (.cells (bC zAut).toArray 75) = U0 := ⟨_, rfl⟩
  have H0 : Hid (U0.heap[n]? = some (.cells (bC a).toArray 75 (0, 0))) := by
    show _ = _; rw [← hU]
    exact ((((Gr.refl _).alloc _).alloc _).block (by simp; omega)).trans (heap_new _ _ _ (by omega))
  have H1 : Hid (U0.heap[n + 1]? = some (.cells (bC b).toArray 75 (0, 0))) := by
    show _ = _; rw [← hU]
    exact (((Gr.refl _).alloc _).block (by simp; omega)).trans (heap_new _ _ _ (by simp; omega))
  have H2 : Hid (U0.heap[n + 1 + 1]? = some (.cells (bC zAut).toArray 75 (0, 0))) := by
    show _ = _; rw [← hU]
    exact heap_new _ _ _ (by simp; omega)
  have HG : Hid (Gr w U0) := by show Gr _ _; rw [← hU]; exact (((Gr.refl w).alloc _).alloc _).alloc _
  have HK := Lib.hid hK
  have HS : Hid (U0.heap.size = n + 1 + 1 + 1) := by show _ = _; rw [← hU]; simp; omega
  have c1 := bC16_len y
  have c2 := bC16_one y
  replace hU := Lib.hid hU
  clear hK hx
  go_enter Tryz.func60, Tryz.ntmps60
  go_wp2_with fail
  rw [hU.out]
  clear hU hn
  obtain ⟨U2, hU2⟩ : ∃ U2, ((U0.alloc (.cells #[.int .u8 1, .int .u8 (x.toNat : Int)] 5)).alloc (.cells #[.slice (some ⟨n + 1 + 1 + 1, 0, none⟩) 2 2, .slice (some ⟨n, 0, none⟩) 16 16, .slice (some ⟨n + 1, 0, none⟩) 16 16] 60)).drew = U2 := ⟨_, rfl⟩
  have hg : Gr U0 U2 := by rw [← hU2]; exact (((Gr.refl U0).alloc _).alloc _).drew
  have k1 : U2.heap[n + 1 + 1 + 1 + 1]? = some (.cells #[.slice (some ⟨n + 1 + 1 + 1, 0, none⟩) 2 2, .slice (some ⟨n, 0, none⟩) 16 16, .slice (some ⟨n + 1, 0, none⟩) 16 16] 60 (0, 0)) := by
    rw [← hU2]; exact drew_atV (heap_new _ _ _ (by have := HS.out; first | omega | (simp; omega)))
  have k2 : OwnU U2 n (.slice (some ⟨n + 1 + 1 + 1, 0, none⟩) 2 2) [1, x] := OwnU.made (l := [1, x]) (by
    rw [← hU2]; exact drew_atV ((((Gr.refl _).alloc _).block (by have := HS.out; first | omega | (simp; omega))).trans (heap_new _ _ _ (by have := HS.out; first | omega | (simp; omega))))) (by omega) (by simp)
  have k3 : BytG U2 (.slice (some ⟨n, 0, none⟩) 16 16) a.toList := ⟨some ⟨n, 0, none⟩, 16, by simp, by simp, .inr ⟨n, 0, rfl, (ByAt.vec H0.out).gr hg⟩⟩
  have k4 : BytG U2 (.slice (some ⟨n + 1, 0, none⟩) 16 16) b.toList := ⟨some ⟨n + 1, 0, none⟩, 16, by simp, by simp, .inr ⟨n + 1, 0, rfl, (ByAt.vec H1.out).gr hg⟩⟩
  have HC := Lib.hid (concatC (n + 1 + 1 + 1 + 1) 3 3 (pick3 (.slice (some ⟨n + 1 + 1 + 1, 0, none⟩) 2 2) (.slice (some ⟨n, 0, none⟩) 16 16) (.slice (some ⟨n + 1, 0, none⟩) 16 16)) (pick3 [1, x] a.toList b.toList) U2 (by rw [catL_three]; simp) (by rw [catL_three]; simp) (by decide) (lt_of_heap k1) (fun j hj => by
    have h : j = 0 ∨ j = 1 ∨ j = 2 := by omega
    rcases h with rfl | rfl | rfl
    · exact ⟨cell_block (cs := [.slice (some ⟨n + 1 + 1 + 1, 0, none⟩) 2 2, .slice (some ⟨n, 0, none⟩) 16 16, .slice (some ⟨n + 1, 0, none⟩) 16 16]) k1 0, k2.bytG⟩
    · exact ⟨cell_block (cs := [.slice (some ⟨n + 1 + 1 + 1, 0, none⟩) 2 2, .slice (some ⟨n, 0, none⟩) 16 16, .slice (some ⟨n + 1, 0, none⟩) 16 16]) k1 1, k3⟩
    · exact ⟨cell_block (cs := [.slice (some ⟨n + 1 + 1 + 1, 0, none⟩) 2 2, .slice (some ⟨n, 0, none⟩) 16 16, .slice (some ⟨n + 1, 0, none⟩) 16 16]) k1 2, k4⟩))
  rw [catL_three] at HC
  have HSZ : Hid (([1, x] ++ a.toList ++ b.toList).length = 34) := by show _ = _; simp
  generalize [1, x] ++ a.toList ++ b.toList = L at *
  have HGU := Lib.hid (HG.out.trans hg)
  have K2 := Lib.hid ((hg.block (lt_of_heap H2.out)).trans H2.out)
  replace hU2 := Lib.hid hU2
  have hs := HS.out
  clear k1 k2 k3 k4 hg
  apply wp_toR (R := fun _ _ W' => Hid (W'.heap[n + 1 + 1]? = some (.cells (bC y).toArray 75 (0, 0))) ∧ Hid (Gr w W'))
  case h =>
    go_region_law (first
      | (go_simp; go_at_call 39; rw [hU2.out]; refine HC.out.mono ?_; rintro e w1 ⟨v1, rfl, ho, hg1⟩; obtain ⟨a1, m1, hv1⟩ := ho.shape; rw [HSZ.out] at hv1; subst hv1)
      | (go_simp; go_at_call 15; refine (sumHalfC (.slice a1 34 m1) _ w1 (HK.out.gr (HGU.out.trans hg1)) (by rw [HSZ.out]; decide) ho.bytG).mono ?_; rw [HLV.out]; rintro e w2 ⟨rfl, hg2⟩; have HG2 := Lib.hid ((HGU.out.trans hg1).trans hg2); have K0 := Lib.hid (((hg1.trans hg2).block (lt_of_heap K2.out)).trans K2.out); have z0 := hasRow_block K0.out 0 16 (by simp [bC16_len]); have z1 := freeRow_block K0.out 0 16; have z2 := lt_of_heap K0.out))
    all_goals exact ⟨a1, m1, ⟨sets_whole K0.out (by simp [bC16_len]), HG2.out.setsOwn (b := n + 1 + 1) (by have := HN.out; omega) (bC y) 0⟩, rfl⟩
  rintro x1 m1 W1 ⟨hE, hG7⟩
  go_wp2_with fail
  refine bodyPost_ret (results_cell_row rfl _ _ (n + 1 + 1) _ _ _ _ rfl hE.out Tryz.underlying75 rfl (sizeNode _)) rfl ?_
  exact ⟨rfl, hG7.out⟩
end Go.Proofs.YteknmbijodbfoaaGreatDoor

namespace Go.Proofs.YteknmbijodbfoaaGreatDoor
open Go.RowKit

def Nds (W : World) (v : Value) (l : List V16) : Prop := SlAt W v 16 (l.map bC)
theorem Nds.gr {W W' : World} {v : Value} {l : List V16} (h : Nds W v l) (hg : Gr W W') : Nds W' v l := SlAt.gr h hg
theorem nds_len (l : List V16) : ∀ r ∈ l.map bC, r.length = 16 := by
  intro r hr; obtain ⟨x, _, rfl⟩ := List.mem_map.1 hr; exact bC16_len x
theorem nds_one (l : List V16) : ∀ r ∈ l.map bC, oneB r = true := by
  intro r hr; obtain ⟨x, _, rfl⟩ := List.mem_map.1 hr; exact bC16_one x
theorem nds_flat (l : List V16) : (l.map bC).flatten = l.flatMap bC := rfl
def OwnV (t : TypeId) (W : World) (base : Nat) (v : Value) (l : List V16) : Prop := W.ownsRow base t 16 v l.length (l.flatMap bC)
theorem OwnV.gr {t : TypeId} {w w' : World} {base : Nat} {v : Value} {l : List V16} (h : OwnV t w base v l) (hg : Gr w w') : OwnV t w' base v l := World.ownsRow.kept h hg.grownBy (by cases v.ownBlock <;> simp)
theorem OwnV.nds {t : TypeId} {W : World} {base : Nat} {v : Value} {l : List V16} (h : OwnV t W base v l) : Nds W v l := slAt_of_owns (nds_len l) (by rw [List.length_map]; exact h)
theorem OwnV.base {t : TypeId} {W : World} {b b' : Nat} {v : Value} {l : List V16} (h : OwnV t W b v l) (hb : b' ≤ b) : OwnV t W b' v l := by
  obtain ⟨h1, h2⟩ := h
  refine ⟨h1, h2.imp id ?_⟩
  rintro ⟨g, cap, cur, e1, e2, e3⟩
  exact ⟨g, cap, cur, e1, Nat.le_trans hb e2, e3⟩
theorem OwnV.nil (t : TypeId) (w : World) (base : Nat) : OwnV t w base (.slice none 0 0) [] := ⟨rfl, .inl ⟨rfl, rfl⟩⟩
theorem OwnV.shape {t : TypeId} {W : World} {base : Nat} {v : Value} {l : List V16} (h : OwnV t W base v l) : ∃ a c, v = .slice a l.length c := by
  obtain ⟨a, c, hv, _⟩ := owns_slice h
  exact ⟨a, c, hv⟩
theorem flat16_len (l : List V16) : (l.flatMap bC).length = l.length * 16 := by
  induction l with
  | nil => rfl
  | cons x l ih => rw [List.flatMap_cons, List.length_append, bC16_len, ih, List.length_cons]; omega
theorem OwnV.made {t : TypeId} {w : World} {base b : Nat} {l : List V16} (h : w.heap[b]? = some (.cells (l.flatMap bC).toArray t (0, 0))) (hb : base ≤ b) (hl : l.length ≤ 1000000) : OwnV t w base (.slice (some ⟨b, 0, none⟩) l.length l.length) l :=
  ⟨by rw [flat16_len], .inr ⟨b, l.length, _, rfl, hb, h, Nat.le_refl _, by unfold maxLen; omega, by rw [List.size_toArray, flat16_len], by rw [List.toList_toArray, List.take_of_length_le (by rw [flat16_len]; exact Nat.le_refl _)]⟩⟩
theorem OwnV.one {t : TypeId} {w : World} {base b : Nat} {x : V16} (h : w.heap[b]? = some (.cells (bC x).toArray t (0, 0))) (hb : base ≤ b) : OwnV t w base (.slice (some ⟨b, 0, none⟩) 1 1) [x] :=
  OwnV.made (l := [x]) (by rw [h]; simp) hb (by simp)
theorem OwnV.kept {t : TypeId} {w w' : World} {base : Nat} {v : Value} {l : List V16} {b : Nat} (h : OwnV t w base v l) (hg : w.grownBy w' (some b)) (hb : v.ownBlock ≠ some b) : OwnV t w' base v l := World.ownsRow.kept h hg (.inr hb)
theorem OwnV.own {t : TypeId} {w : World} {base : Nat} {v : Value} {l : List V16} (h : OwnV t w base v l) {k : Nat} (hk : v.ownBlock = some k) : base ≤ k ∧ k < w.heap.size := World.ownsRow.lt h k hk
def InfoV (t : TypeId) : Prop := ∃ i z, Tryz.prog.info? t = some i ∧ i.zero = some z ∧ i.size = 16 ∧ i.bytes = 16 ∧ z.cells.size = 16
theorem infoV_of {t : TypeId} (h : (Tryz.prog.info? t).map (fun i => (i.zero.map (fun z => z.cells.size), i.size, i.bytes)) = some (some 16, 16, 16)) : InfoV t := by
  cases hi : Tryz.prog.info? t with
  | none => rw [hi] at h; cases h
  | some i =>
    rw [hi] at h
    simp only [Option.map_some, Option.some.injEq, Prod.mk.injEq] at h
    obtain ⟨z, hz, hs⟩ := Option.map_eq_some_iff.1 h.1
    exact ⟨i, z, hi, hz, h.2.1, h.2.2, hs⟩
theorem infoNode : InfoV 75 := infoV_of (by kernel_rfl)
theorem infoA16 : InfoV 29 := infoV_of (by kernel_rfl)
theorem wpList_append_v (w : World) {ops : Array Oper} {rest : List Oper} {o : Oper} {a : Act} {Q : Exit → Act → World → Prop} (hgd : o.guard = none) (s x : Operand) (te t : TypeId)
    (ho : o.op = .call { callee := .builtin .append, args := #[s, x], argTypes := #[te, te] }) (ht : Tryz.prog.underlying te = some (.slice t)) (hi : InfoV t) (base : Nat) (v : Value) (xs : List V16) (hs : a.eval s = v) (hown : OwnV t w base v xs)
    (sv : Value) (ys : List V16) (hx : a.eval x = sv) (hsl : Nds w sv ys) (n : Nat) (hn : xs.length + ys.length = n) (h63 : n ≤ 1000000) (hbase : base ≤ w.heap.size)
    (h : ∀ a' c' w', OwnV t w' base (.slice a' n c') (xs ++ ys) → w.grownBy w' v.ownBlock → wpList Tryz.prog ops Q rest (a.put o.dst (.slice a' n c')) w') :
    wpList Tryz.prog ops Q (o :: rest) a w := by
  subst hn
  obtain ⟨i, z, h1, h2, h3, h4, h5⟩ := hi
  have hl : (ys.map bC).length = ys.length := List.length_map ..
  refine wpList_append_sl w hgd s x te ho base t i z 16 16 ht h1 h2 h3 h4 h5 (by decide) v xs.length (xs.flatMap bC) hs hown sv (ys.map bC) hx hsl (nds_len _) (nds_one _) (by rw [hl]; exact h63) (by decide) hbase ?_
  intro a' c' w' ho' hg _
  rw [hl] at ho' ⊢
  refine h a' c' w' ?_ hg
  unfold OwnV
  rw [List.length_append, List.flatMap_append]; exact ho'
theorem step_append_v {ops : Array Oper} {o : Oper} {a : Act} {w : World} {K : Act → World → Prop} {Q : Exit → Act → World → Prop} {E : Prop}
    (hg : o.guard = none) (d : Nat) (hd : o.dst = some d) (s x : Operand) (te t : TypeId) (hop : o.op = Op.call { callee := Callee.builtin Builtin.append, args := #[s, x], argTypes := #[te, te] }) (ht : Tryz.prog.underlying te = some (.slice t)) (hi : InfoV t)
    (base : Nat) (v : Value) (xs : List V16) (hs : a.eval s = v) (hown : OwnV t w base v xs) (sv : Value) (ys : List V16) (hx : a.eval x = sv) (hsl : Nds w sv ys) (N : Nat) (hN : xs.length + ys.length = N) (h63 : N ≤ 1000000) (hbase : base ≤ w.heap.size)
    (hK : ∀ a' c' w', OwnV t w' base (.slice a' N c') (xs ++ ys) → w.grownBy w' v.ownBlock → K (a.put (some d) (.slice a' N c')) w') :
    if Region.wanted o (yielded ops a.tmps) = true then Oper.wp Tryz.prog o a w K Q else E := by
  subst hN
  have hw : Region.wanted o (yielded ops a.tmps) = true := by simp [Region.wanted, hg]
  rw [if_pos hw]
  obtain ⟨i, z, i1, i2, i3, i4, i5⟩ := hi
  have hl : (ys.map bC).length = ys.length := List.length_map ..
  obtain ⟨a', c', w', hrun, h2, h3, _⟩ := run_append_sl (P := Tryz.prog) w base te o.type t i z 16 16 ht i1 i2 i3 i4 i5 (by decide) v xs.length (xs.flatMap bC) hown sv (ys.map bC) hsl (nds_len _) (nds_one _) (by rw [hl]; exact h63) (by decide) hbase
  rw [hl] at hrun h2
  unfold Oper.wp
  simp [execOp, hop, resolve, invoke, builtin, hs, hx, hrun, Result.andThen]
  show K (a.put o.dst _) w'
  rw [hd]
  refine hK a' c' w' ?_ h3
  unfold OwnV
  rw [List.length_append, List.flatMap_append]; exact h2
@[go_sem ↓] theorem exec_bsN {P : Program} (ρ : Operand → Value) (d : Option Tmp) (ps : Array (Nat × Operand)) (ty : TypeId) (p : String) (af : Array Edge) (g : Option (Nat × Bool)) (w : World) :
    Sem.run P (execOp ρ ⟨d, .buildSlice 56 1 ps, ty, p, af, g⟩) w = bsR P 56 1 (ps.map fun x => (x.1, ρ x.2)) w := rfl
theorem bSlNF (f : Nat → Value) (w : World) : (Instr.buildSlice 56 1 #[(0, .agg ((List.range 16).map f).toArray)]).run Tryz.prog w = .ok (.slice (some ⟨w.heap.size, 0, none⟩) 1 1) (w.alloc (.cells ((List.range 16).map f).toArray 75)) := by kernel_rfl
@[go_sem] theorem kSlN (y : V16) (w : World) : bsR Tryz.prog 56 1 #[(0, .agg (bC y).toArray)] w = .ok (.value (.slice (some ⟨w.heap.size, 0, none⟩) 1 1)) (w.alloc (.cells (bC y).toArray 75)) := bs_of (by rw [bC_exp]; exact bSlNF _ w)
@[go_sem ↓] theorem exec_bsW {P : Program} (ρ : Operand → Value) (d : Option Tmp) (ps : Array (Nat × Operand)) (ty : TypeId) (p : String) (af : Array Edge) (g : Option (Nat × Bool)) (w : World) :
    Sem.run P (execOp ρ ⟨d, .buildSlice 43 1 ps, ty, p, af, g⟩) w = bsR P 43 1 (ps.map fun x => (x.1, ρ x.2)) w := rfl
theorem bSlWF (f : Nat → Value) (w : World) : (Instr.buildSlice 43 1 #[(0, .agg ((List.range 16).map f).toArray)]).run Tryz.prog w = .ok (.slice (some ⟨w.heap.size, 0, none⟩) 1 1) (w.alloc (.cells ((List.range 16).map f).toArray 29)) := by kernel_rfl
@[go_sem] theorem kSlW (y : V16) (w : World) : bsR Tryz.prog 43 1 #[(0, .agg (bC y).toArray)] w = .ok (.value (.slice (some ⟨w.heap.size, 0, none⟩) 1 1)) (w.alloc (.cells (bC y).toArray 29)) := bs_of (by rw [bC_exp]; exact bSlWF _ w)
/-- An element of a slice of values. -/
structure NdAt (W : World) (b k : Nat) (x : V16) : Prop where
  h : hasRow W ⟨b, k, none⟩ 16 = true
  r : rowAt W ⟨b, k, none⟩ 16 = bC x
  z : b < W.heap.size
theorem NdAt.gr {W W' : World} {b k : Nat} {x : V16} (h : NdAt W b k x) (hg : Gr W W') : NdAt W' b k x := ⟨(hg.hasRow h.z).trans h.h, (hg.rowAt h.z).trans h.r, Nat.lt_of_lt_of_le h.z hg.size⟩
theorem cell_rowV {w : World} {b k n : Nat} {cs : List Value} (h1 : hasRow w ⟨b, k, none⟩ n = true) (h2 : rowAt w ⟨b, k, none⟩ n = cs) (m : Nat) (hm : m < n) : w.cell? ⟨b, k + m, none⟩ = cs[m]? := by
  subst h2
  have h := hasRow_iff.1 h1 m hm
  rw [Addr.add_lit] at h
  unfold rowAt
  rw [List.getElem?_map, List.getElem?_range hm, Option.map_some, Addr.add_lit]
  cases hc : w.cell? ⟨b, k + m, none⟩ with
  | none => rw [hc] at h; cases h
  | some v => rfl
theorem NdAt.rng {W : World} {b k : Nat} {x : V16} (h : NdAt W b k x) : W.rangeAt b k (bC x) := fun j v hj => by
  have hlt := (List.getElem?_eq_some_iff.1 hj).1
  rw [bC16_len] at hlt
  exact (cell_rowV h.h h.r j hlt).trans hj
theorem Nds.open {W : World} {v : Value} {l : List V16} (h : Nds W v l) (h0 : l ≠ []) : ∃ b k c, v = .slice (some ⟨b, k, none⟩) l.length c ∧ l.length ≤ c ∧ ∀ j (hj : j < l.length), NdAt W b (k + j * 16) l[j] := by
  obtain ⟨a, c, rfl, hc, hj⟩ := h
  have hm : (l.map bC).length = l.length := List.length_map ..
  rw [hm] at hc ⊢
  have hp : 0 < l.length := List.length_pos_iff.2 h0
  obtain ⟨b, k, ha, _⟩ := hj 0 (by omega)
  subst ha
  refine ⟨b, k, c, rfl, hc, fun j hlt => ?_⟩
  obtain ⟨b', k', e, h1, h2, h3⟩ := hj j (by omega)
  injection e with e
  injection e with e1 e2 e3
  subst e1; subst e2
  exact ⟨h2, by rw [h3, List.getElem_map], h1⟩
theorem OwnV.open {t : TypeId} {W : World} {base : Nat} {v : Value} {l : List V16} (h : OwnV t W base v l) (h0 : l ≠ []) : ∃ g c, v = .slice (some ⟨g, 0, none⟩) l.length c ∧ l.length ≤ c ∧ base ≤ g ∧ g < W.heap.size ∧ ∀ j (hj : j < l.length), NdAt W g (j * 16) l[j] := by
  have hp : 0 < l.length := List.length_pos_iff.2 h0
  obtain ⟨b, k, c, hv, hc, hj⟩ := h.nds.open h0
  rcases h.2 with ⟨_, hl⟩ | ⟨g, cap, cur, e1, e2, _⟩
  · omega
  · rw [hv] at e1
    injection e1 with e1 e3 e4
    injection e1 with e1
    injection e1 with e1 e5 e6
    subst e1; subst e5
    refine ⟨b, c, hv, hc, e2, (hj 0 hp).z, fun j hlt => ?_⟩
    have := hj j hlt
    rwa [Nat.zero_add] at this
set_option maxRecDepth 100000 in
set_option maxHeartbeats 2000000 in
theorem cloneN0 (w : World) (v : Value) (l : List V16) (hv : Nds w v l) (h0 : l ≠ []) (hl : l.length ≤ 1000) : Calls Tryz.prog 59 #[v] w fun e w' => ∃ v', e = .returned v' ∧ OwnV 75 w' w.heap.size v' l ∧ Gr w w' := by
  obtain ⟨b, k, c, rfl, hc, -⟩ := hv.open h0
  have HV := Lib.hid hv
  have hnil : ∀ W, (binOp .eql 56 (.slice (some ⟨b, k, none⟩) l.length c) (.slice none 0 0)).run Tryz.prog W = .ok (.bool false) W := fun W => Lib.run_eql_slice_nil W _ _ _ _ _ _ _ Tryz.underlying56
  go_enter Tryz.func59, Tryz.ntmps59
  have O7 : Hid (OwnV 75 (w.alloc (.cells #[] 75)) w.heap.size (.slice (some ⟨w.heap.size, 0, none⟩) 0 0) []) := OwnV.made (l := []) (heap_alloc_new w _) (Nat.le_refl _) (by simp)
  have O8 := Lib.hid (hv.gr ((Gr.refl w).alloc (.cells #[] 75)))
  have HG : Hid (Gr w (w.alloc (.cells #[] 75))) := (Gr.refl w).alloc _
  clear hv
  go_wp2_with (at_builtin; refine wpList_append_v _ rfl _ _ 56 75 rfl Tryz.underlying56 infoNode w.heap.size (.slice (some ⟨w.heap.size, 0, none⟩) 0 0) [] (by simp [Act.eval]) O7.out (.slice (some ⟨b, k, none⟩) l.length c) l (by simp [Act.eval]) O8.out l.length (by simp) (by omega) (by simp) ?_; intro a3 n3 w3 ho3 hg3)
  have HG3 := Lib.hid (HG.out.grown hg3 (fun q hq => by have h : w.heap.size = q := Option.some.inj hq; omega))
  have HO3 : Hid (OwnV 75 w3 w.heap.size (.slice a3 l.length n3) l) := ho3
  clear ho3 hg3
  go_wp2_with fail
  go_ret
  exact ⟨_, rfl, HO3.out, HG3.out⟩
end Go.Proofs.YteknmbijodbfoaaGreatDoor

namespace Go.Proofs.YteknmbijodbfoaaGreatDoor
open Go.RowKit

def AtEndV3 (A : Option Addr → Nat → Nat → Act) (R : Option Addr → Nat → World → Prop) (e : Exit) (a : Act) (w : World) : Prop := match e with | .normal => ∃ x n k, R x n w ∧ a = A x n k | _ => False
theorem wp_toV3 {P : Program} {c : Code} {Q' : Exit → Act → World → Prop} {a : Act} {w : World} (A : Option Addr → Nat → Nat → Act) (R : Option Addr → Nat → World → Prop) (h : c.wp P (AtEndV3 A R) a w) (hq : ∀ x n k W, R x n W → Q' .normal (A x n k) W) : c.wp P Q' a w :=
  Code.wp_mono (fun e a w h => by cases e <;> first | exact h.elim | (obtain ⟨x, n, k, h2, h3⟩ := h; subst h3; exact hq x n k w h2)) h
set_option maxHeartbeats 1000000 in
theorem check2 (b k c : Nat) (w : World) : Calls Tryz.prog 33 #[.slice (some ⟨b, k, none⟩) 2 c] w fun e w' => e = .returned (.int .i64 0) ∧ w = w' := by
  have h1 : bits .and .i64 2 1 = 0 := by decide
  go_enter Tryz.func33, Tryz.ntmps33
  go_wp2_with fail
  go_ret
  exact ⟨rfl, rfl⟩
theorem infoT0 : (Tryz.prog.info? 56).map (fun i => (i.zero, i.size, i.bytes)) = some (some (.slice none 0 0), 1, 24) := by kernel_rfl
theorem infoT : ∃ i z, Tryz.prog.info? 56 = some i ∧ i.zero = some z ∧ i.size = 1 ∧ i.bytes = 24 ∧ z.cells.size = 1 := by
  obtain ⟨i, hi, h⟩ := Option.map_eq_some_iff.1 infoT0
  simp only [Prod.mk.injEq] at h
  exact ⟨i, _, hi, h.1, h.2.1, h.2.2, rfl⟩
def OwnS' (W : World) (base : Nat) (v : Value) (l : List Value) : Prop := W.ownsRow base 56 1 v l.length l
theorem OwnS'.made {W : World} {base b : Nat} {v : Value} (h : W.heap[b]? = some (.cells #[v] 56 (0, 0))) (hb : base ≤ b) : OwnS' W base (.slice (some ⟨b, 0, none⟩) 1 1) [v] :=
  ⟨rfl, .inr ⟨b, 1, _, rfl, hb, h, Nat.le_refl _, by unfold maxLen; omega, rfl, rfl⟩⟩
theorem OwnS'.gr {w w' : World} {base : Nat} {v : Value} {l : List Value} (h : OwnS' w base v l) (hg : Gr w w') : OwnS' w' base v l := World.ownsRow.kept h hg.grownBy (by cases v.ownBlock <;> simp)
theorem OwnS'.open {w : World} {base : Nat} {v p q : Value} (h : OwnS' w base v [p, q]) : ∃ g c, v = .slice (some ⟨g, 0, none⟩) 2 c ∧ 2 ≤ c ∧ g < w.heap.size ∧ w.cell? ⟨g, 0, none⟩ = some p ∧ w.cell? ⟨g, 1, none⟩ = some q := by
  obtain ⟨_, h2⟩ := h
  rcases h2 with ⟨_, h0⟩ | ⟨g, cap, cur, hv, hg, hh, hc, hm, hs, ht⟩
  · cases h0
  · refine ⟨g, cap, hv, hc, (Array.getElem?_eq_some_iff.1 hh).1, ?_, ?_⟩
    · rw [cell_of_row _ _ _ _ _ _ hh]
      have := congrArg (fun l => l[0]?) ht
      simpa using this
    · rw [cell_of_row _ _ _ _ _ _ hh]
      have := congrArg (fun l => l[1]?) ht
      simpa using this
theorem wpList_append_t (w : World) {ops : Array Oper} {rest : List Oper} {o : Oper} {a : Act} {Q : Exit → Act → World → Prop} (hgd : o.guard = none) (s x : Operand)
    (ho : o.op = .call { callee := .builtin .append, args := #[s, x], argTypes := #[92, 92] }) (base : Nat) (v : Value) (xs : List Value) (hs : a.eval s = v) (hown : OwnS' w base v xs)
    (sv y : Value) (hy : y.oneCell' = true) (hx : a.eval x = sv) (hsl : OwnS' w 0 sv [y]) (n : Nat) (hn : xs.length + 1 = n) (h63 : n ≤ 1000000) (hbase : base ≤ w.heap.size)
    (h : ∀ a' c' w', OwnS' w' base (.slice a' n c') (xs ++ [y]) → w.grownBy w' v.ownBlock → wpList Tryz.prog ops Q rest (a.put o.dst (.slice a' n c')) w') :
    wpList Tryz.prog ops Q (o :: rest) a w := by
  subst hn
  obtain ⟨i, z, h1, h2, h3, h4, h5⟩ := infoT
  refine wpList_append_sl w hgd s x 92 ho base 56 i z 1 24 Tryz.underlying92 h1 h2 h3 h4 h5 (by decide) v xs.length xs hs hown sv [[y]] hx (slAt_of_owns (by simp) hsl) (by simp) (by simp [oneB, hy]) h63 (by decide) hbase ?_
  intro a' c' w' ho' hg _
  refine h a' c' w' ?_ hg
  unfold OwnS'
  rw [List.length_append]; exact ho'
/-- A tree of two leaves. -/
def Tree2 (W : World) (v : Value) (x y : V16) : Prop := ∃ g c v1 v2, v = .slice (some ⟨g, 0, none⟩) 2 c ∧ 2 ≤ c ∧ W.cell? ⟨g, 0, none⟩ = some v1 ∧ W.cell? ⟨g, 1, none⟩ = some v2 ∧ g < W.heap.size ∧ Nds W v1 [x, y] ∧ Nds W v2 [joinV 1 x y]
set_option maxRecDepth 100000 in
set_option maxHeartbeats 2000000 in
theorem grow2 (v : Value) (x y : V16) (w : World) (hK : Kt w) (hv : Nds w v [x, y]) : Calls Tryz.prog 34 #[v] w fun e w' => ∃ t, e = .returned t ∧ Tree2 w' t x y ∧ Gr w w' := by
  have HK := Lib.hid hK
  have HC := Lib.hid (cloneN0 w v [x, y] hv (by simp) (by simp))
  obtain ⟨j, hj⟩ : ∃ j, joinV 1 x y = j := ⟨_, rfl⟩
  have HJ : Hid (∀ W, Kt W → Calls Tryz.prog 60 #[.int .i64 1, .agg (bC x).toArray, .agg (bC y).toArray] W fun e w' => e = .returned (.agg (bC j).toArray) ∧ Gr W w') := fun W h => by rw [← hj]; exact joinC 1 x y W h
  have b1 := bC16_len j
  have b2 := bC16_one j
  have b3 := bC16_len x
  have b4 := bC16_one x
  have b5 := bC16_len y
  have b6 := bC16_one y
  clear hK
  go_enter Tryz.func34, Tryz.ntmps34
  go_wp2_with (go_at_call 59; refine HC.out.mono ?_; rintro e w1 ⟨v1, rfl, ho, hg1⟩; obtain ⟨g1, c1, rfl, hc1, hb1, hz1, hn1⟩ := ho.open (by simp); have HN := Lib.hid hn1; have HO := Lib.hid ho; clear hn1 ho)
  have KG1 := (Gr.refl w1).alloc (.cells #[.slice (some ⟨g1, 0, none⟩) 2 c1] 56)
  obtain ⟨T, hT⟩ : ∃ T, w1.heap.size = T := ⟨_, rfl⟩
  have cT : (w1.alloc (.cells #[.slice (some ⟨g1, 0, none⟩) 2 c1] 56)).cell? ⟨T, 0, none⟩ = some (.slice (some ⟨g1, 0, none⟩) 2 c1) := cell_block (cs := [.slice (some ⟨g1, 0, none⟩) 2 c1]) (heap_new _ _ _ hT.symm) 0
  have zT : T < (w1.alloc (.cells #[.slice (some ⟨g1, 0, none⟩) 2 c1] 56)).heap.size := by simp; omega
  have HN1 : Hid (NdAt (w1.alloc (.cells #[.slice (some ⟨g1, 0, none⟩) 2 c1] 56)) g1 0 x) := (HN.out 0 (by simp)).gr KG1
  have HN2 : Hid (NdAt (w1.alloc (.cells #[.slice (some ⟨g1, 0, none⟩) 2 c1] 56)) g1 16 y) := (HN.out 1 (by simp)).gr KG1
  have HO1 := Lib.hid (HO.out.gr KG1)
  have HG1 := Lib.hid (hg1.trans KG1)
  have HT0 : Hid (OwnS' (w1.alloc (.cells #[.slice (some ⟨g1, 0, none⟩) 2 c1] 56)) w.heap.size (.slice (some ⟨T, 0, none⟩) 1 1) [.slice (some ⟨g1, 0, none⟩) 2 c1]) := OwnS'.made (heap_new _ _ _ hT.symm) (hT ▸ hg1.size)
  have hgT : w.heap.size ≤ T := hT ▸ hg1.size
  rw [hT]
  have hgT1 : g1 < T := hT ▸ hz1
  have HZT := Lib.hid zT
  clear KG1 hg1 HN HO hT HC
  generalize w1.alloc (.cells #[.slice (some ⟨g1, 0, none⟩) 2 c1] 56) = U1 at *
  refine wp_loop_rounds 2 ?_
  rw [rounds_succ]
  go_wp2_with fail
  refine wp_loop_rounds 2 ?_
  rw [rounds_succ]
  go_wp2_with fail
  have KS : Hid (∀ W, Gr U1 W → W.rangeAt g1 0 (bC x) ∧ W.rangeAt g1 16 (bC y)) := fun W hW => ⟨(HN1.out.gr hW).rng, (HN2.out.gr hW).rng⟩
  have k1 := HN1.out.h; have k2 := HN1.out.r; have k3 := HN1.out.z; have k4 := HN2.out.h; have k5 := HN2.out.r
  have e01 : IntKind.i64.wrap (0 + 1) = 1 := by decide
  have e02 : IntKind.i64.wrap 1 = 1 := by decide
  have e03 : (0 : Int) + 1 = 1 := rfl
  have zU : w.heap.size ≤ U1.heap.size := HG1.out.size
  apply wp_toV3 (R := fun a m W' => Hid (OwnV 75 W' U1.heap.size (.slice a 1 m) [j]) ∧ Hid (Gr U1 W'))
  case h =>
    go_region_law
      (first
        | (go_simp; go_at_call 60; refine (HJ.out _ (HK.out.gr (HG1.out.trans (Gr.refl U1).drew))).mono ?_; rintro e w4 ⟨rfl, hg4⟩; have G4 := (Gr.refl U1).drew.trans hg4)
        | (refine step_append_v rfl 42 rfl (.tmp 28) (.tmp 41) 56 75 rfl Tryz.underlying56 infoNode U1.heap.size (.slice none 0 0) [] (by simp [Act.eval]) (OwnV.nil _ _ _) (.slice (some ⟨w4.heap.size, 0, none⟩) 1 1) [j] (by simp [Act.eval]) (OwnV.one (heap_alloc_new w4 _) (b := w4.heap.size) (base := 0) (Nat.zero_le _)).nds 1 rfl (by decide) (by have := G4.size; simp; omega) ?_; intro a1 m1 w5 ho1 hg5; have G5 := (G4.alloc (.cells (bC j).toArray 75)).grown hg5 (fun k hk => by cases hk)))
    all_goals (have hR1 := And.intro (Lib.hid ho1) (Lib.hid G5); obtain ⟨kk, hkk⟩ : ∃ kk, w4.heap.size = kk := ⟨_, rfl⟩; rw [hkk]; exact ⟨a1, m1, kk, hR1, rfl⟩)
  rintro a1 m1 kk U2 ⟨ho2, hg2⟩
  go_wp2_with fail
  rw [rounds_succ]
  have hgA := (Gr.refl U2).alloc (.cells #[.slice a1 1 m1] 56)
  have O7 := Lib.hid ((HT0.out.gr hg2.out).gr hgA)
  have O8 : Hid (OwnS' (U2.alloc (.cells #[.slice a1 1 m1] 56)) 0 (.slice (some ⟨U2.heap.size, 0, none⟩) 1 1) [.slice a1 1 m1]) := OwnS'.made (heap_alloc_new U2 _) (Nat.zero_le _)
  have z7 : w.heap.size ≤ (U2.alloc (.cells #[.slice a1 1 m1] 56)).heap.size := Nat.le_trans zU (Nat.le_trans hg2.out.size hgA.size)
  have N1 := Lib.hid (HO1.out.gr (hg2.out.trans hgA))
  have N2 := Lib.hid (ho2.out.gr hgA)
  have HG2 := Lib.hid (HG1.out.trans (hg2.out.trans hgA))
  clear hgA k1 k2 k3 k4 k5 cT zT
  go_wp2_with (at_builtin; refine wpList_append_t _ rfl _ _ rfl w.heap.size (.slice (some ⟨T, 0, none⟩) 1 1) [.slice (some ⟨g1, 0, none⟩) 2 c1] (by simp [Act.eval]) O7.out (.slice (some ⟨U2.heap.size, 0, none⟩) 1 1) (.slice a1 1 m1) rfl (by simp [Act.eval]) O8.out 2 rfl (by decide) z7 ?_; intro a3 n3 w3 ho3 hg3; obtain ⟨tg, tc, htv, tc2, tz, t0, t1⟩ := ho3.open; injection htv with htv1 htv2 htv3; subst htv1; subst htv3)
  have hT3 : ∀ k, (Value.slice (some ⟨T, 0, none⟩) 1 1).ownBlock = some k → k = T := fun k hk => by have h : T = k := Option.some.inj hk; exact h.symm
  have HG3 := Lib.hid (HG2.out.grown hg3 (fun k hk => by rw [hT3 k hk]; exact hgT))
  have hg3' : World.grownBy (U2.alloc (.cells #[.slice a1 1 m1] 56)) w3 (some T) := hg3
  have M1 : Hid (Nds w3 (.slice (some ⟨g1, 0, none⟩) 2 c1) [x, y]) := (N1.out.kept hg3' (fun e => by have h : g1 = T := Option.some.inj e; omega)).nds
  have M2 : Hid (Nds w3 (.slice a1 1 m1) [j]) := (N2.out.kept hg3' (fun e => by have h1 := (N2.out.own e).1; have := HZT.out; omega)).nds
  rw [rounds_succ]
  go_wp2_with fail
  go_ret
  refine ⟨_, rfl, ⟨tg, n3, _, _, rfl, tc2, t0, t1, tz, M1.out, by rw [hj]; exact M2.out⟩, HG3.out⟩
end Go.Proofs.YteknmbijodbfoaaGreatDoor

namespace Go.Proofs.YteknmbijodbfoaaGreatDoor
open Go.RowKit

theorem Tree2.gr {W W' : World} {v : Value} {x y : V16} (h : Tree2 W v x y) (hg : Gr W W') : Tree2 W' v x y := by
  obtain ⟨g, c, v1, v2, e, hc, c0, c1, hz, n1, n2⟩ := h
  exact ⟨g, c, v1, v2, e, hc, (hg.cell (p := ⟨g, 0, none⟩) hz).trans c0, (hg.cell (p := ⟨g, 1, none⟩) hz).trans c1, Nat.lt_of_lt_of_le hz hg.size, n1.gr hg, n2.gr hg⟩
theorem Nds.at {W : World} {v : Value} {l : List V16} (h : Nds W v l) (h0 : l ≠ []) (n : Nat) (hn : l.length = n) : ∃ b k c, v = .slice (some ⟨b, k, none⟩) n c ∧ n ≤ c ∧ ∀ j x, l[j]? = some x → NdAt W b (k + j * 16) x := by
  subst hn
  obtain ⟨b, k, c, hv, hc, hj⟩ := h.open h0
  refine ⟨b, k, c, hv, hc, fun j x hx => ?_⟩
  obtain ⟨hlt, e⟩ := List.getElem?_eq_some_iff.1 hx
  rw [← e]; exact hj j hlt
set_option maxRecDepth 100000 in
set_option maxHeartbeats 2000000 in
theorem root2 (v : Value) (x y : V16) (w : World) (hK : Kt w) (hv : Nds w v [x, y]) : Calls Tryz.prog 23 #[v] w fun e w' => e = .returned (.tuple #[.agg (bC (joinV 1 x y)).toArray, .int .i64 0]) ∧ Gr w w' := by
  obtain ⟨n, hn⟩ : ∃ n, w.heap.size = n := ⟨_, rfl⟩
  have HN := Lib.hid hn
  have HV := Lib.hid hv
  obtain ⟨b, k, c, rfl, hc, -⟩ := hv.at (by simp) 2 rfl
  have HZ : Hid ((w.alloc (.cells (bC zAut).toArray 75)).heap[n]? = some (.cells (bC zAut).toArray 75 (0, 0))) := heap_new _ _ _ hn.symm
  have HG : Hid (Gr w (w.alloc (.cells (bC zAut).toArray 75))) := (Gr.refl w).alloc _
  have HGW := Lib.hid (grow2 _ x y _ (hK.gr HG.out) (HV.out.gr HG.out))
  have b1 := bC16_len (joinV 1 x y)
  have b2 := bC16_one (joinV 1 x y)
  clear hv hK
  go_enter Tryz.func23, Tryz.ntmps23
  go_wp2_with (first
    | (go_at_call 33; refine (check2 _ _ _ _).mono ?_; rintro e w' ⟨rfl, rfl⟩)
    | (go_at_call 34; refine HGW.out.mono ?_; rintro e w1 ⟨t, rfl, ⟨g, c2, v1, v2, rfl, hc2, c0, c1, hz, n1, n2⟩, hg1⟩; obtain ⟨b2, k2, c4, rfl, hc4, hn2⟩ := n2.at (by simp) 1 rfl; have d0 := hn2 0 _ rfl; rw [Nat.zero_mul, Nat.add_zero] at d0; have HD := Lib.hid d0; have d1 := d0.h; have d2 := d0.r; have d3 := d0.z; have HZ1 := Lib.hid ((hg1.block (lt_of_heap HZ.out)).trans HZ.out); have HG1 := Lib.hid (HG.out.trans hg1); have z0 := hasRow_block HZ1.out 0 16 (by simp [bC16_len]); have z1 := freeRow_block HZ1.out 0 16; have z2 := lt_of_heap HZ1.out; clear hn2 d0))
  generalize joinV 1 x y = j at *
  have HE : Hid ((w1.setCells n 0 (bC j)).heap[n]? = some (.cells (bC j).toArray 75 (0, 0))) := sets_whole HZ1.out (by simp [bC16_len])
  have HG7 := Lib.hid (HG1.out.setsOwn (b := n) (by have := HN.out; omega) (bC j) 0)
  refine bodyPost_ret (results_cellT rfl _ _ n _ _ _ _ rfl HE.out Tryz.underlying75 rfl (sizeNode _)) rfl ?_
  exact ⟨rfl, HG7.out⟩
set_option maxRecDepth 100000 in
set_option maxHeartbeats 2000000 in
theorem siblings2 (t : Value) (x y : V16) (w : World) (ht : Tree2 w t x y) : Calls Tryz.prog 82 #[t, .int .i64 0] w fun e w' => ∃ v, e = .returned v ∧ OwnV 75 w' w.heap.size v [y] ∧ Gr w w' := by
  obtain ⟨g, c2, v1, v2, rfl, hc2, c0, c1, hz, n1, n2⟩ := ht
  obtain ⟨b, k, c, rfl, hc, hn⟩ := n1.at (by simp) 2 rfl
  have d1 := hn 1 y rfl
  rw [Nat.one_mul] at d1
  have d2 := d1.h
  have d3 := d1.r
  have d4 := d1.z
  have b3 := bC16_len y
  have b4 := bC16_one y
  have e1 : bits .xor .i64 0 1 = 1 := by decide
  clear hn
  go_enter Tryz.func82, Tryz.ntmps82
  go_wp2_with fail
  refine wp_loop_rounds 2 ?_
  rw [rounds_succ]
  have hgA := (Gr.refl w).alloc (.cells (bC y).toArray 75)
  have O8 : Hid (OwnV 75 (w.alloc (.cells (bC y).toArray 75)) 0 (.slice (some ⟨w.heap.size, 0, none⟩) 1 1) [y]) := OwnV.one (heap_alloc_new w _) (Nat.zero_le _)
  go_wp2_with (at_builtin; refine wpList_append_v _ rfl _ _ 56 75 rfl Tryz.underlying56 infoNode w.heap.size (.slice none 0 0) [] (by simp [Act.eval]) (OwnV.nil _ _ _) (.slice (some ⟨w.heap.size, 0, none⟩) 1 1) [y] (by simp [Act.eval]) O8.out.nds 1 rfl (by decide) (by simp) ?_; intro a3 n3 w3 ho3 hg3)
  rw [rounds_succ]
  have HO3 : Hid (OwnV 75 w3 w.heap.size (.slice a3 1 n3) [y]) := ho3
  have HG3 := Lib.hid (hgA.grown hg3 (fun k hk => by cases hk))
  clear hg3 ho3
  go_wp2_with fail
  go_ret
  exact ⟨_, rfl, HO3.out, HG3.out⟩
set_option maxRecDepth 100000 in
set_option maxHeartbeats 2000000 in
theorem path2 (v : Value) (x y : V16) (w : World) (hK : Kt w) (hv : Nds w v [x, y]) : Calls Tryz.prog 53 #[v, .int .i64 0] w fun e w' => ∃ p, e = .returned (.tuple #[p, .int .i64 0]) ∧ OwnV 75 w' w.heap.size p [y] ∧ Gr w w' := by
  have HV := Lib.hid hv
  obtain ⟨b, k, c, rfl, hc, -⟩ := hv.at (by simp) 2 rfl
  have HGW := Lib.hid (grow2 _ x y _ hK hv)
  clear hv hK
  go_enter Tryz.func53, Tryz.ntmps53
  go_wp2_with (first
    | (go_at_call 33; refine (check2 _ _ _ _).mono ?_; rintro e w' ⟨rfl, rfl⟩)
    | (go_at_call 34; refine HGW.out.mono ?_; rintro e w1 ⟨t, rfl, ht, hg1⟩)
    | (go_at_call 82; refine (siblings2 t x y w1 ht).mono ?_; rintro e w2 ⟨v2, rfl, ho2, hg2⟩))
  go_ret2
  exact ⟨v2, rfl, ho2.base hg1.size, hg1.trans hg2⟩
end Go.Proofs.YteknmbijodbfoaaGreatDoor

namespace Go.Proofs.YteknmbijodbfoaaGreatDoor
open Go.RowKit

def prC (p : V16 × V16) : List Value := bC p.1 ++ bC p.2
theorem prC_len (p : V16 × V16) : (prC p).length = 32 := by unfold prC; rw [List.length_append, bC16_len, bC16_len]
theorem prC_one (p : V16 × V16) : oneB (prC p) = true := by unfold prC; simp only [oneB_append, bC16_one, Bool.and_self]
theorem prC_fst (p : V16 × V16) : rowOf (prC p) 0 16 = bC p.1 := rowOf_app_l _ _ _ (bC16_len _)
theorem prC_snd (p : V16 × V16) : rowOf (prC p) 16 16 = bC p.2 := by
  unfold prC; rw [rowOf_app_r _ _ _ _ 16 (bC16_len _) (Nat.le_refl _), rowOf_all _ _ (bC16_len _)]
@[go_sem ↓ high] theorem zeroPr (w : World) : Sem.run Tryz.prog (zeroValue 228) w = .ok (.agg (prC (zAut, zAut)).toArray) w := by kernel_rfl
@[go_sem] theorem aggPr : aggB Tryz.prog 228 = true := by kernel_rfl
@[go_sem] theorem cellsPr : Tryz.prog.cellsOf 228 = 32 := by kernel_rfl
theorem sizePr (p : V16 × V16) : (Tryz.prog.info? 228).map (fun x => x.size) = some (prC p).toArray.size := by
  rw [List.size_toArray, prC_len]; kernel_rfl
theorem bPrF (f g : Nat → Value) (w : World) : (Instr.build 228 #[(0, .agg ((List.range 16).map f).toArray), (1, .agg ((List.range 16).map g).toArray)]).run Tryz.prog w = .ok (.agg ((List.range 16).map f ++ (List.range 16).map g).toArray) w := by kernel_rfl
theorem bPr0 (x y : V16) (w : World) : (Instr.build 228 #[(0, .agg (bC x).toArray), (1, .agg (bC y).toArray)]).run Tryz.prog w = .ok (.agg (prC (x, y)).toArray) w := by
  unfold prC; rw [bC_exp, bC_exp]; exact bPrF _ _ w
@[go_sem] theorem bdPr (x y : V16) (w : World) : bdR Tryz.prog 228 #[(0, .agg (bC x).toArray), (1, .agg (bC y).toArray)] w = .ok (.value (.agg (prC (x, y)).toArray)) w := bd_of (bPr0 x y w)
theorem Kt.of_block {W W' : World} (h : Kt W) (hb : W'.heap[3]? = W.heap[3]?) : Kt W' := fun i hi => (World.cell?_of_block hb).trans (h i hi)
/-- Two results in memory. -/
theorem results_cell2 {P : Program} {fn : Func} {p q : Tmp} {ty ty2 : TypeId} (h : fn.results = #[.cell p ty, .cell q ty2]) (tmps : Array Value) (w : World) (g g2 : Nat) (t t2 : TypeId) (cs cs2 : Array Value) (fr fr2 : Nat × Nat) (d d2 : TypeDesc)
    (hp : tmps.getD p undef = .pointer (some ⟨g, 0, none⟩)) (hq : tmps.getD q undef = .pointer (some ⟨g2, 0, none⟩)) (hg : w.heap[g]? = some (.cells cs t fr)) (hg2 : w.heap[g2]? = some (.cells cs2 t2 fr2))
    (hu : P.underlying ty = some d) (hu2 : P.underlying ty2 = some d2) (hd : (match d with | .struct _ | .array _ _ => true | _ => false) = true) (hd2 : (match d2 with | .struct _ | .array _ _ => true | _ => false) = true) (hi : (P.info? ty).map (·.size) = some cs.size) (hi2 : (P.info? ty2).map (·.size) = some cs2.size) :
    (results fn tmps).run P w = .ok (.tuple #[.agg cs, .agg cs2]) w := by
  have hp' : tmps[p]?.getD undef = .pointer (some ⟨g, 0, none⟩) := by simpa using hp
  have hq' : tmps[q]?.getD undef = .pointer (some ⟨g2, 0, none⟩) := by simpa using hq
  simp [results, h, hp', hq', asAddr, run_loadVar_row w g t ty cs fr d hg hu hd hi, run_loadVar_row w g2 t2 ty2 cs2 fr2 d2 hg2 hu2 hd2 hi2]
theorem andi1 (n : Nat) : bits .and .i64 (n : Int) 1 = ((n % 2 : Nat) : Int) := by
  have h127 : (BitVec.ofInt 64 1).toNat = 2 ^ 1 - 1 := by decide
  have key : (BitVec.ofInt 64 (n : Int) &&& BitVec.ofInt 64 1).toNat = ((n : Int) % ((2 ^ 64 : Nat) : Int)).toNat % 2 ^ 1 := by
    rw [BitVec.toNat_and, BitVec.toNat_ofInt, h127, Nat.and_two_pow_sub_one_eq_mod]
  show IntKind.i64.wrap ((BitVec.ofInt 64 (n : Int) &&& BitVec.ofInt 64 1).toNat : Nat) = _
  rw [key, IntKind.wrap_i64]
  omega
set_option maxRecDepth 100000 in
set_option maxHeartbeats 2000000 in
theorem climb1C (nb ib lb : Nat) (hnl : nb ≠ lb) (hni : nb ≠ ib) (hil : ib ≠ lb) (index level : Nat) (hix : index < 65536) (hlv : level < 16) (node sib : V16) (W : World) (hK : Kt W) (hcn : 3 ≠ nb) (hcl : 3 ≠ lb)
    (h1 : W.heap[nb]? = some (.cells (bC node).toArray 75 (0, 0))) (h2 : W.heap[ib]? = some (.cells #[.int .i64 (index : Int)] 3 (0, 0))) (h3 : W.heap[lb]? = some (.cells #[.int .i64 (level : Int)] 3 (0, 0))) :
    Calls Tryz.prog 171 #[.agg (bC sib).toArray, .pointer (some ⟨nb, 0, none⟩), .pointer (some ⟨ib, 0, none⟩), .pointer (some ⟨lb, 0, none⟩)] W fun e W' =>
      e = .returned (.tuple #[.agg (prC (pairV index level node sib)).toArray, .agg (bC (joinV (level + 1) (pairV index level node sib).1 (pairV index level node sib).2)).toArray]) ∧
      W'.heap[nb]? = some (.cells (bC (joinV (level + 1) (pairV index level node sib).1 (pairV index level node sib).2)).toArray 75 (0, 0)) ∧ W'.heap[lb]? = some (.cells #[.int .i64 ((level + 1 : Nat) : Int)] 3 (0, 0)) ∧
      W.heap.size ≤ W'.heap.size ∧ (∀ i, i < W.heap.size → i ≠ nb → i ≠ lb → W'.heap[i]? = W.heap[i]?) ∧ (∀ w0, Gr w0 W → w0.heap.size ≤ nb → w0.heap.size ≤ lb → Gr w0 W') := by
  obtain ⟨n, hn⟩ : ∃ n, W.heap.size = n := ⟨_, rfl⟩
  have HN := Lib.hid hn
  have gV := (((Gr.refl W).alloc (.cells (bC sib).toArray 75)).alloc (.cells (prC (zAut, zAut)).toArray 228)).alloc (.cells (bC zAut).toArray 75)
  have z1 := lt_of_heap h1
  have z2 := lt_of_heap h2
  have z3 := lt_of_heap h3
  have k1 := (gV.block z1).trans h1
  have k2 := (gV.block z2).trans h2
  have k3 := (gV.block z3).trans h3
  have k4 : (((W.alloc (.cells (bC sib).toArray 75)).alloc (.cells (prC (zAut, zAut)).toArray 228)).alloc (.cells (bC zAut).toArray 75)).heap[n]? = some (.cells (bC sib).toArray 75 (0, 0)) := ((((Gr.refl _).alloc _).alloc _).block (by simp; omega)).trans (heap_new _ _ _ hn.symm)
  have k5 : (((W.alloc (.cells (bC sib).toArray 75)).alloc (.cells (prC (zAut, zAut)).toArray 228)).alloc (.cells (bC zAut).toArray 75)).heap[n + 1]? = some (.cells (prC (zAut, zAut)).toArray 228 (0, 0)) := (((Gr.refl _).alloc _).block (by simp; omega)).trans (heap_new _ _ _ (by simp; omega))
  have k6 : (((W.alloc (.cells (bC sib).toArray 75)).alloc (.cells (prC (zAut, zAut)).toArray 228)).alloc (.cells (bC zAut).toArray 75)).heap[n + 1 + 1]? = some (.cells (bC zAut).toArray 75 (0, 0)) := heap_new _ _ _ (by simp; omega)
  have kz : (((W.alloc (.cells (bC sib).toArray 75)).alloc (.cells (prC (zAut, zAut)).toArray 228)).alloc (.cells (bC zAut).toArray 75)).heap.size = n + 1 + 1 + 1 := by simp; omega
  have r1 := hasRow_block k1 0 16 (by simp [bC16_len])
  have r2 := (rowAt_block k1 0 16 (by simp [bC16_len])).trans (rowOf_all _ _ (bC16_len node))
  have r3 := hasRow_block k4 0 16 (by simp [bC16_len])
  have r4 := (rowAt_block k4 0 16 (by simp [bC16_len])).trans (rowOf_all _ _ (bC16_len sib))
  have y1 := lt_of_heap k1
  have y4 := lt_of_heap k4
  have b1 := bC16_len node
  have b2 := bC16_one node
  have b3 := bC16_len sib
  have b4 := bC16_one sib
  have b5 := prC_len (node, sib)
  have b6 := prC_one (node, sib)
  have c2 : W.cell? ⟨ib, 0, none⟩ = some (.int .i64 (index : Int)) := cell_block (cs := [.int .i64 (index : Int)]) h2 0
  have c3 : W.cell? ⟨lb, 0, none⟩ = some (.int .i64 (level : Int)) := cell_block (cs := [.int .i64 (level : Int)]) h3 0
  have f3 : W.frozen? ⟨lb, 0, none⟩ = false := free_block (cs := [.int .i64 (level : Int)]) h3 0
  have l0 : (0 : Int) ≤ (level : Int) := by omega
  have l1 : (level : Int) ≤ 64 := by omega
  obtain ⟨s, hs⟩ : ∃ s, index / 2 ^ level = s := ⟨_, rfl⟩
  have hs2 : s < 65536 := by rw [← hs]; exact Nat.lt_of_le_of_lt (Nat.div_le_self _ _) hix
  have e1 : (index : Int) / 2 ^ level = (s : Int) := by rw [← hs]; simp
  have e2 := andi1 s
  have b7 := prC_len (sib, node)
  have b8 := prC_one (sib, node)
  have HK1 := Lib.hid k1; have HK2 := Lib.hid k2; have HK3 := Lib.hid k3; have HK4 := Lib.hid k4; have HK5 := Lib.hid k5; have HK6 := Lib.hid k6; have HKZ := Lib.hid kz; have HGV := Lib.hid gV; have HKT := Lib.hid (hK.gr gV)
  have HW1 := Lib.hid h1; have HW3 := Lib.hid h3
  clear k1 k2 k3 k4 k5 k6 kz gV hK h1 h2 h3
  have wE : ∀ i, i < n + 1 + 1 + 1 → (((((W.alloc (.cells (bC sib).toArray 75)).alloc (.cells (prC (zAut, zAut)).toArray 228)).alloc (.cells (bC zAut).toArray 75)).alloc (.cells (prC (zAut, zAut)).toArray 228)).setCells (n + 1 + 1 + 1) 0 (prC (node, sib))).heap[i]? = (((W.alloc (.cells (bC sib).toArray 75)).alloc (.cells (prC (zAut, zAut)).toArray 228)).alloc (.cells (bC zAut).toArray 75)).heap[i]? := fun i hi => (sets_other (by omega) _ _ _).trans (((Gr.refl _).alloc _).block (by have := HKZ.out; omega))
  have w3 : (((((W.alloc (.cells (bC sib).toArray 75)).alloc (.cells (prC (zAut, zAut)).toArray 228)).alloc (.cells (bC zAut).toArray 75)).alloc (.cells (prC (zAut, zAut)).toArray 228)).setCells (n + 1 + 1 + 1) 0 (prC (node, sib))).heap[n + 1 + 1 + 1]? = some (.cells (prC (node, sib)).toArray 228 (0, 0)) := sets_whole (heap_new _ _ _ (by have := HKZ.out; omega)) (by rw [prC_len, prC_len])
  have wz : (((((W.alloc (.cells (bC sib).toArray 75)).alloc (.cells (prC (zAut, zAut)).toArray 228)).alloc (.cells (bC zAut).toArray 75)).alloc (.cells (prC (zAut, zAut)).toArray 228)).setCells (n + 1 + 1 + 1) 0 (prC (node, sib))).heap.size = n + 1 + 1 + 1 + 1 := by rw [sets_size]; simp; omega
  have x2 : (((((W.alloc (.cells (bC sib).toArray 75)).alloc (.cells (prC (zAut, zAut)).toArray 228)).alloc (.cells (bC zAut).toArray 75)).alloc (.cells (prC (zAut, zAut)).toArray 228)).setCells (n + 1 + 1 + 1) 0 (prC (node, sib))).cell? ⟨ib, 0, none⟩ = some (.int .i64 (index : Int)) := cell_block (cs := [.int .i64 (index : Int)]) ((wE ib (by omega)).trans HK2.out) 0
  have x3 : (((((W.alloc (.cells (bC sib).toArray 75)).alloc (.cells (prC (zAut, zAut)).toArray 228)).alloc (.cells (bC zAut).toArray 75)).alloc (.cells (prC (zAut, zAut)).toArray 228)).setCells (n + 1 + 1 + 1) 0 (prC (node, sib))).cell? ⟨lb, 0, none⟩ = some (.int .i64 (level : Int)) := cell_block (cs := [.int .i64 (level : Int)]) ((wE lb (by omega)).trans HK3.out) 0
  have x4 : (((((W.alloc (.cells (bC sib).toArray 75)).alloc (.cells (prC (zAut, zAut)).toArray 228)).alloc (.cells (bC zAut).toArray 75)).alloc (.cells (prC (zAut, zAut)).toArray 228)).setCells (n + 1 + 1 + 1) 0 (prC (node, sib))).frozen? ⟨lb, 0, none⟩ = false := free_block (cs := [.int .i64 (level : Int)]) ((wE lb (by omega)).trans HK3.out) 0
  have wn : ((((W.alloc (.cells (bC sib).toArray 75)).alloc (.cells (prC (zAut, zAut)).toArray 228)).alloc (.cells (bC zAut).toArray 75)).alloc (.cells (prC (zAut, zAut)).toArray 228)).heap[n + 1 + 1 + 1]? = some (.cells (prC (zAut, zAut)).toArray 228 (0, 0)) := heap_new _ _ _ (by have := HKZ.out; omega)
  have s1 := hasRow_block wn 0 32 (by rw [prC_len]; decide)
  have s2 := freeRow_block wn 0 32
  have s3 := lt_of_heap wn
  have HE := Lib.hid wE; have HW3b := Lib.hid w3; have HWZ := Lib.hid wz
  have HGX : Hid (∀ w0, Gr w0 W → w0.heap.size ≤ n → Gr w0 (((((W.alloc (.cells (bC sib).toArray 75)).alloc (.cells (prC (zAut, zAut)).toArray 228)).alloc (.cells (bC zAut).toArray 75)).alloc (.cells (prC (zAut, zAut)).toArray 228)).setCells (n + 1 + 1 + 1) 0 (prC (node, sib)))) := fun w0 h0 hz => ((h0.trans HGV.out).alloc _).setsOwn (b := n + 1 + 1 + 1) (by omega) _ 0
  have HGV0 := Lib.hid HGV.out
  clear wn wE w3 wz c2 c3 f3 HGV
  have hq : s % 2 = 0 ∨ s % 2 = 1 := by omega
  rcases hq with hq | hq
  · rw [hq] at e2
    have e2 : bits .and .i64 (s : Int) 1 = 0 := e2
    have n1 := hasRow_block ((heap_setCell_other _ ⟨lb, 0, none⟩ (n + 1 + 1 + 1) (.int .i64 ((level : Int) + 1)) (by show n + 1 + 1 + 1 ≠ lb; omega)).trans HW3b.out) 0 16 (by rw [prC_len]; decide)
    have n2 := (rowAt_block ((heap_setCell_other _ ⟨lb, 0, none⟩ (n + 1 + 1 + 1) (.int .i64 ((level : Int) + 1)) (by show n + 1 + 1 + 1 ≠ lb; omega)).trans HW3b.out) 0 16 (by rw [prC_len]; decide)).trans (prC_fst _)
    have n3 := hasRow_block ((heap_setCell_other _ ⟨lb, 0, none⟩ (n + 1 + 1 + 1) (.int .i64 ((level : Int) + 1)) (by show n + 1 + 1 + 1 ≠ lb; omega)).trans HW3b.out) 16 16 (by rw [prC_len]; decide)
    have n4 := (rowAt_block ((heap_setCell_other _ ⟨lb, 0, none⟩ (n + 1 + 1 + 1) (.int .i64 ((level : Int) + 1)) (by show n + 1 + 1 + 1 ≠ lb; omega)).trans HW3b.out) 16 16 (by rw [prC_len]; decide)).trans (prC_snd _)
    have n5 := lt_of_heap ((heap_setCell_other _ ⟨lb, 0, none⟩ (n + 1 + 1 + 1) (.int .i64 ((level : Int) + 1)) (by show n + 1 + 1 + 1 ≠ lb; omega)).trans HW3b.out)
    go_enter Tryz.func171, Tryz.ntmps171
    go_wp2_with fail
    have K3 : Hid (((((((W.alloc (.cells (bC sib).toArray 75)).alloc (.cells (prC (zAut, zAut)).toArray 228)).alloc (.cells (bC zAut).toArray 75)).alloc (.cells (prC (zAut, zAut)).toArray 228)).setCells (n + 1 + 1 + 1) 0 (prC (node, sib))).setCell ⟨lb, 0, none⟩ (.int .i64 ((level : Int) + 1))).heap[n + 1 + 1 + 1]? = some (.cells (prC (node, sib)).toArray 228 (0, 0))) := (heap_setCell_other _ ⟨lb, 0, none⟩ (n + 1 + 1 + 1) (.int .i64 ((level : Int) + 1)) (by show n + 1 + 1 + 1 ≠ lb; omega)).trans HW3b.out
    have KE : Hid (∀ i, i < n + 1 + 1 + 1 → i ≠ lb → ((((((W.alloc (.cells (bC sib).toArray 75)).alloc (.cells (prC (zAut, zAut)).toArray 228)).alloc (.cells (bC zAut).toArray 75)).alloc (.cells (prC (zAut, zAut)).toArray 228)).setCells (n + 1 + 1 + 1) 0 (prC (node, sib))).setCell ⟨lb, 0, none⟩ (.int .i64 ((level : Int) + 1))).heap[i]? = (((W.alloc (.cells (bC sib).toArray 75)).alloc (.cells (prC (zAut, zAut)).toArray 228)).alloc (.cells (bC zAut).toArray 75)).heap[i]?) := fun i hi hl => (heap_setCell_other _ ⟨lb, 0, none⟩ i (.int .i64 ((level : Int) + 1)) hl).trans (HE.out i hi)
    have KL : Hid (((((((W.alloc (.cells (bC sib).toArray 75)).alloc (.cells (prC (zAut, zAut)).toArray 228)).alloc (.cells (bC zAut).toArray 75)).alloc (.cells (prC (zAut, zAut)).toArray 228)).setCells (n + 1 + 1 + 1) 0 (prC (node, sib))).setCell ⟨lb, 0, none⟩ (.int .i64 ((level : Int) + 1))).heap[lb]? = some (.cells #[.int .i64 ((level : Int) + 1)] 3 (0, 0))) := by
      show _ = _
      rw [heap_setCell_same _ lb 0 _ _ _ ((HE.out lb (by omega)).trans HK3.out)]; simp
    have KZ : Hid (((((((W.alloc (.cells (bC sib).toArray 75)).alloc (.cells (prC (zAut, zAut)).toArray 228)).alloc (.cells (bC zAut).toArray 75)).alloc (.cells (prC (zAut, zAut)).toArray 228)).setCells (n + 1 + 1 + 1) 0 (prC (node, sib))).setCell ⟨lb, 0, none⟩ (.int .i64 ((level : Int) + 1))).heap.size = n + 1 + 1 + 1 + 1) := by show _ = _; rw [World.size_setCell]; exact HWZ.out
    have KG : Hid (∀ w0, Gr w0 W → w0.heap.size ≤ n → w0.heap.size ≤ lb → Gr w0 ((((((W.alloc (.cells (bC sib).toArray 75)).alloc (.cells (prC (zAut, zAut)).toArray 228)).alloc (.cells (bC zAut).toArray 75)).alloc (.cells (prC (zAut, zAut)).toArray 228)).setCells (n + 1 + 1 + 1) 0 (prC (node, sib))).setCell ⟨lb, 0, none⟩ (.int .i64 ((level : Int) + 1)))) := fun w0 h0 hz hl => (HGX.out w0 h0 hz).setOwn hl _
    have KK : Hid (Kt ((((((W.alloc (.cells (bC sib).toArray 75)).alloc (.cells (prC (zAut, zAut)).toArray 228)).alloc (.cells (bC zAut).toArray 75)).alloc (.cells (prC (zAut, zAut)).toArray 228)).setCells (n + 1 + 1 + 1) 0 (prC (node, sib))).setCell ⟨lb, 0, none⟩ (.int .i64 ((level : Int) + 1)))) := HKT.out.of_block (KE.out _ (by have := HKT.out.lt; have := HKZ.out; omega) hcl)
    clear x2 x3 x4 n1 n2 n3 n4 n5
    generalize (((((W.alloc (.cells (bC sib).toArray 75)).alloc (.cells (prC (zAut, zAut)).toArray 228)).alloc (.cells (bC zAut).toArray 75)).alloc (.cells (prC (zAut, zAut)).toArray 228)).setCells (n + 1 + 1 + 1) 0 (prC (node, sib))).setCell ⟨lb, 0, none⟩ (.int .i64 ((level : Int) + 1)) = Y at *
    have HJ : Calls Tryz.prog 60 #[.int .i64 ((level : Int) + 1), .agg (bC node).toArray, .agg (bC sib).toArray] Y fun e w' => e = .returned (.agg (bC (joinV (level + 1) node sib)).toArray) ∧ Gr Y w' := joinC (level + 1) node sib Y KK.out
    have HPR : Hid (pairV index level node sib = (node, sib)) := by show _ = _; unfold pairV; rw [hs]; rw [if_neg (by omega)]
    obtain ⟨j, hj⟩ : ∃ j, joinV (level + 1) node sib = j := ⟨_, rfl⟩
    rw [hj] at HJ
    refine HJ.mono ?_
    rintro e w5 ⟨rfl, hg5⟩
    have q1 := (hg5.block (by have := KZ.out; omega)).trans ((KE.out nb (by omega) hnl).trans HK1.out)
    have q2 := (hg5.block (by have := KZ.out; omega)).trans K3.out
    have q3 := (hg5.block (by have := KZ.out; omega)).trans ((KE.out (n + 1) (by omega) (by omega)).trans HK5.out)
    have q4 := (hg5.block (by have := KZ.out; omega)).trans ((KE.out (n + 1 + 1) (by omega) (by omega)).trans HK6.out)
    have t1 := hasRow_block q1 0 16 (by simp [bC16_len])
    have t2 := freeRow_block q1 0 16
    have t3 := lt_of_heap q1
    have t4 := bC16_len j
    have t5 := bC16_one j
    have t6 := prC_len (node, sib)
    have t7 := prC_one (node, sib)
    have Z1 : (w5.setCells nb 0 (bC j)).heap[nb]? = some (.cells (bC j).toArray 75 (0, 0)) := sets_whole q1 (by simp [bC16_len])
    have Z2 : (w5.setCells nb 0 (bC j)).heap[n + 1 + 1 + 1]? = some (.cells (prC (node, sib)).toArray 228 (0, 0)) := (sets_other (by omega) _ _ _).trans q2
    have Z3 : (w5.setCells nb 0 (bC j)).heap[n + 1]? = some (.cells (prC (zAut, zAut)).toArray 228 (0, 0)) := (sets_other (by omega) _ _ _).trans q3
    have Z4 : (w5.setCells nb 0 (bC j)).heap[n + 1 + 1]? = some (.cells (bC zAut).toArray 75 (0, 0)) := (sets_other (by omega) _ _ _).trans q4
    have a1 := hasRow_block Z1 0 16 (by simp [bC16_len])
    have a2 := (rowAt_block Z1 0 16 (by simp [bC16_len])).trans (rowOf_all _ _ (bC16_len j))
    have a3 := hasRow_block Z2 0 32 (by rw [prC_len]; decide)
    have a4 := (rowAt_block Z2 0 32 (by rw [prC_len]; decide)).trans (rowOf_all _ _ (prC_len _))
    have a5 := hasRow_block Z3 0 32 (by rw [prC_len]; decide)
    have a6 := freeRow_block Z3 0 32
    have a7 := hasRow_block Z4 0 16 (by simp [bC16_len])
    have a8 := freeRow_block Z4 0 16
    have a9 := lt_of_heap Z1; have a10 := lt_of_heap Z2; have a11 := lt_of_heap Z3; have a12 := lt_of_heap Z4
    have Y1 : ((w5.setCells nb 0 (bC j)).drew.setCells (n + 1) 0 (prC (node, sib))).heap[nb]? = some (.cells (bC j).toArray 75 (0, 0)) := (sets_other (by omega) _ _ _).trans Z1
    have Y4 : ((w5.setCells nb 0 (bC j)).drew.setCells (n + 1) 0 (prC (node, sib))).heap[n + 1 + 1]? = some (.cells (bC zAut).toArray 75 (0, 0)) := (sets_other (by omega) _ _ _).trans Z4
    have d1 := hasRow_block Y1 0 16 (by simp [bC16_len])
    have d2 := (rowAt_block Y1 0 16 (by simp [bC16_len])).trans (rowOf_all _ _ (bC16_len j))
    have d3 := hasRow_block Y4 0 16 (by simp [bC16_len])
    have d4 := freeRow_block Y4 0 16
    have d5 := lt_of_heap Y1; have d6 := lt_of_heap Y4
    have R1 : Hid ((((w5.setCells nb 0 (bC j)).drew.setCells (n + 1) 0 (prC (node, sib))).setCells (n + 1 + 1) 0 (bC j)).heap[n + 1]? = some (.cells (prC (node, sib)).toArray 228 (0, 0))) := (sets_other (by omega) _ _ _).trans (sets_whole Z3 (by rw [prC_len, prC_len]))
    have R2 : Hid ((((w5.setCells nb 0 (bC j)).drew.setCells (n + 1) 0 (prC (node, sib))).setCells (n + 1 + 1) 0 (bC j)).heap[n + 1 + 1]? = some (.cells (bC j).toArray 75 (0, 0))) := sets_whole Y4 (by simp [bC16_len])
    have R3 : Hid (∀ i, i < n + 1 → (((w5.setCells nb 0 (bC j)).drew.setCells (n + 1) 0 (prC (node, sib))).setCells (n + 1 + 1) 0 (bC j)).heap[i]? = (w5.setCells nb 0 (bC j)).heap[i]?) := fun i hi => (sets_other (by omega) _ _ _).trans (sets_other (by omega) _ _ _)
    have R4 : Hid (∀ w0, Gr w0 W → w0.heap.size ≤ nb → w0.heap.size ≤ lb → Gr w0 (((w5.setCells nb 0 (bC j)).drew.setCells (n + 1) 0 (prC (node, sib))).setCells (n + 1 + 1) 0 (bC j))) := fun w0 h0 hb hl => (((((KG.out w0 h0 (by omega) hl).trans hg5).setsOwn hb _ 0).drew).setsOwn (by omega) _ 0).setsOwn (by omega) _ 0
    have R5 : Hid (n ≤ (((w5.setCells nb 0 (bC j)).drew.setCells (n + 1) 0 (prC (node, sib))).setCells (n + 1 + 1) 0 (bC j)).heap.size) := by show _ ≤ _; rw [sets_size, sets_size, World.size_drew, sets_size]; have := hg5.size; have := KZ.out; omega
    have R6 : Hid ((w5.setCells nb 0 (bC j)).heap[lb]? = some (.cells #[.int .i64 ((level : Int) + 1)] 3 (0, 0))) := (sets_other (by omega) _ _ _).trans ((hg5.block (by have := KZ.out; omega)).trans KL.out)
    have R7 : Hid (∀ i, i < n → i ≠ nb → i ≠ lb → (w5.setCells nb 0 (bC j)).heap[i]? = W.heap[i]?) := fun i hi h1 h2 => (sets_other h1 _ _ _).trans ((hg5.block (by have := KZ.out; omega)).trans ((KE.out i (by omega) h2).trans (HGV0.out.block (by omega))))
    have Z1h := Lib.hid Z1
    clear q1 q2 q3 q4 Z1 Z2 Z3 Z4 Y1 Y4 HJ
    go_wp2_with fail
    go_region_law (fail)
    all_goals
      go_wp2_with fail
      refine bodyPost_ret (results_cell2 rfl _ _ (n + 1) (n + 1 + 1) _ _ _ _ _ _ _ _ rfl rfl R1.out R2.out Tryz.underlying228 Tryz.underlying75 rfl rfl (sizePr _) (sizeNode _)) rfl ?_
      rw [HPR.out]
      refine ⟨by rw [← hj], ?_, ?_, by rw [HN.out]; exact R5.out, fun i hi h1 h2 => (R3.out i (by have := HN.out; omega)).trans (R7.out i (by have := HN.out; omega) h1 h2), R4.out⟩
      · show _ = some (Obj.cells (bC (joinV (level + 1) node sib)).toArray _ _)
        rw [hj]; exact (R3.out nb (by omega)).trans Z1h.out
      · exact (R3.out lb (by omega)).trans R6.out
  · rw [hq] at e2
    have e2 : bits .and .i64 (s : Int) 1 = 1 := e2
    have g1 := hasRow_block ((HE.out n (by omega)).trans HK4.out) 0 16 (by simp [bC16_len])
    have g2 := (rowAt_block ((HE.out n (by omega)).trans HK4.out) 0 16 (by simp [bC16_len])).trans (rowOf_all _ _ (bC16_len sib))
    have g3 := lt_of_heap ((HE.out n (by omega)).trans HK4.out)
    have g4 := hasRow_block ((HE.out nb (by omega)).trans HK1.out) 0 16 (by simp [bC16_len])
    have g5 := (rowAt_block ((HE.out nb (by omega)).trans HK1.out) 0 16 (by simp [bC16_len])).trans (rowOf_all _ _ (bC16_len node))
    have g6 := lt_of_heap ((HE.out nb (by omega)).trans HK1.out)
    have g7 := hasRow_block HW3b.out 0 32 (by rw [prC_len]; decide)
    have g8 := freeRow_block HW3b.out 0 32
    have g9 := lt_of_heap HW3b.out
    have HW3c := Lib.hid (sets_whole (cs := prC (sib, node)) HW3b.out (by rw [prC_len, prC_len]))
    have HEc : Hid (∀ i, i < n + 1 + 1 + 1 → ((((((W.alloc (.cells (bC sib).toArray 75)).alloc (.cells (prC (zAut, zAut)).toArray 228)).alloc (.cells (bC zAut).toArray 75)).alloc (.cells (prC (zAut, zAut)).toArray 228)).setCells (n + 1 + 1 + 1) 0 (prC (node, sib))).setCells (n + 1 + 1 + 1) 0 (prC (sib, node))).heap[i]? = (((W.alloc (.cells (bC sib).toArray 75)).alloc (.cells (prC (zAut, zAut)).toArray 228)).alloc (.cells (bC zAut).toArray 75)).heap[i]?) := fun i hi => (sets_other (by omega) _ _ _).trans (HE.out i hi)
    have HWZc : Hid (((((((W.alloc (.cells (bC sib).toArray 75)).alloc (.cells (prC (zAut, zAut)).toArray 228)).alloc (.cells (bC zAut).toArray 75)).alloc (.cells (prC (zAut, zAut)).toArray 228)).setCells (n + 1 + 1 + 1) 0 (prC (node, sib))).setCells (n + 1 + 1 + 1) 0 (prC (sib, node))).heap.size = n + 1 + 1 + 1 + 1) := by show _ = _; rw [sets_size]; exact HWZ.out
    have HGXc : Hid (∀ w0, Gr w0 W → w0.heap.size ≤ n → Gr w0 ((((((W.alloc (.cells (bC sib).toArray 75)).alloc (.cells (prC (zAut, zAut)).toArray 228)).alloc (.cells (bC zAut).toArray 75)).alloc (.cells (prC (zAut, zAut)).toArray 228)).setCells (n + 1 + 1 + 1) 0 (prC (node, sib))).setCells (n + 1 + 1 + 1) 0 (prC (sib, node)))) := fun w0 h0 hz => (HGX.out w0 h0 hz).setsOwn (b := n + 1 + 1 + 1) (by omega) _ 0
    have x3o := x3
    replace x3 : ((((((W.alloc (.cells (bC sib).toArray 75)).alloc (.cells (prC (zAut, zAut)).toArray 228)).alloc (.cells (bC zAut).toArray 75)).alloc (.cells (prC (zAut, zAut)).toArray 228)).setCells (n + 1 + 1 + 1) 0 (prC (node, sib))).setCells (n + 1 + 1 + 1) 0 (prC (sib, node))).cell? ⟨lb, 0, none⟩ = some (.int .i64 (level : Int)) := cell_block (cs := [.int .i64 (level : Int)]) ((HEc.out lb (by omega)).trans HK3.out) 0
    replace x4 : ((((((W.alloc (.cells (bC sib).toArray 75)).alloc (.cells (prC (zAut, zAut)).toArray 228)).alloc (.cells (bC zAut).toArray 75)).alloc (.cells (prC (zAut, zAut)).toArray 228)).setCells (n + 1 + 1 + 1) 0 (prC (node, sib))).setCells (n + 1 + 1 + 1) 0 (prC (sib, node))).frozen? ⟨lb, 0, none⟩ = false := free_block (cs := [.int .i64 (level : Int)]) ((HEc.out lb (by omega)).trans HK3.out) 0
    have n1 := hasRow_block ((heap_setCell_other _ ⟨lb, 0, none⟩ (n + 1 + 1 + 1) (.int .i64 ((level : Int) + 1)) (by show n + 1 + 1 + 1 ≠ lb; omega)).trans HW3c.out) 0 16 (by rw [prC_len]; decide)
    have n2 := (rowAt_block ((heap_setCell_other _ ⟨lb, 0, none⟩ (n + 1 + 1 + 1) (.int .i64 ((level : Int) + 1)) (by show n + 1 + 1 + 1 ≠ lb; omega)).trans HW3c.out) 0 16 (by rw [prC_len]; decide)).trans (prC_fst _)
    have n3 := hasRow_block ((heap_setCell_other _ ⟨lb, 0, none⟩ (n + 1 + 1 + 1) (.int .i64 ((level : Int) + 1)) (by show n + 1 + 1 + 1 ≠ lb; omega)).trans HW3c.out) 16 16 (by rw [prC_len]; decide)
    have n4 := (rowAt_block ((heap_setCell_other _ ⟨lb, 0, none⟩ (n + 1 + 1 + 1) (.int .i64 ((level : Int) + 1)) (by show n + 1 + 1 + 1 ≠ lb; omega)).trans HW3c.out) 16 16 (by rw [prC_len]; decide)).trans (prC_snd _)
    have n5 := lt_of_heap ((heap_setCell_other _ ⟨lb, 0, none⟩ (n + 1 + 1 + 1) (.int .i64 ((level : Int) + 1)) (by show n + 1 + 1 + 1 ≠ lb; omega)).trans HW3c.out)
    go_enter Tryz.func171, Tryz.ntmps171
    go_wp2_with fail
    have K3 : Hid ((((((((W.alloc (.cells (bC sib).toArray 75)).alloc (.cells (prC (zAut, zAut)).toArray 228)).alloc (.cells (bC zAut).toArray 75)).alloc (.cells (prC (zAut, zAut)).toArray 228)).setCells (n + 1 + 1 + 1) 0 (prC (node, sib))).setCells (n + 1 + 1 + 1) 0 (prC (sib, node))).setCell ⟨lb, 0, none⟩ (.int .i64 ((level : Int) + 1))).heap[n + 1 + 1 + 1]? = some (.cells (prC (sib, node)).toArray 228 (0, 0))) := (heap_setCell_other _ ⟨lb, 0, none⟩ (n + 1 + 1 + 1) (.int .i64 ((level : Int) + 1)) (by show n + 1 + 1 + 1 ≠ lb; omega)).trans HW3c.out
    have KE : Hid (∀ i, i < n + 1 + 1 + 1 → i ≠ lb → (((((((W.alloc (.cells (bC sib).toArray 75)).alloc (.cells (prC (zAut, zAut)).toArray 228)).alloc (.cells (bC zAut).toArray 75)).alloc (.cells (prC (zAut, zAut)).toArray 228)).setCells (n + 1 + 1 + 1) 0 (prC (node, sib))).setCells (n + 1 + 1 + 1) 0 (prC (sib, node))).setCell ⟨lb, 0, none⟩ (.int .i64 ((level : Int) + 1))).heap[i]? = (((W.alloc (.cells (bC sib).toArray 75)).alloc (.cells (prC (zAut, zAut)).toArray 228)).alloc (.cells (bC zAut).toArray 75)).heap[i]?) := fun i hi hl => (heap_setCell_other _ ⟨lb, 0, none⟩ i (.int .i64 ((level : Int) + 1)) hl).trans (HEc.out i hi)
    have KL : Hid ((((((((W.alloc (.cells (bC sib).toArray 75)).alloc (.cells (prC (zAut, zAut)).toArray 228)).alloc (.cells (bC zAut).toArray 75)).alloc (.cells (prC (zAut, zAut)).toArray 228)).setCells (n + 1 + 1 + 1) 0 (prC (node, sib))).setCells (n + 1 + 1 + 1) 0 (prC (sib, node))).setCell ⟨lb, 0, none⟩ (.int .i64 ((level : Int) + 1))).heap[lb]? = some (.cells #[.int .i64 ((level : Int) + 1)] 3 (0, 0))) := by
      show _ = _
      rw [heap_setCell_same _ lb 0 _ _ _ ((HEc.out lb (by omega)).trans HK3.out)]; simp
    have KZ : Hid ((((((((W.alloc (.cells (bC sib).toArray 75)).alloc (.cells (prC (zAut, zAut)).toArray 228)).alloc (.cells (bC zAut).toArray 75)).alloc (.cells (prC (zAut, zAut)).toArray 228)).setCells (n + 1 + 1 + 1) 0 (prC (node, sib))).setCells (n + 1 + 1 + 1) 0 (prC (sib, node))).setCell ⟨lb, 0, none⟩ (.int .i64 ((level : Int) + 1))).heap.size = n + 1 + 1 + 1 + 1) := by show _ = _; rw [World.size_setCell]; exact HWZc.out
    have KG : Hid (∀ w0, Gr w0 W → w0.heap.size ≤ n → w0.heap.size ≤ lb → Gr w0 (((((((W.alloc (.cells (bC sib).toArray 75)).alloc (.cells (prC (zAut, zAut)).toArray 228)).alloc (.cells (bC zAut).toArray 75)).alloc (.cells (prC (zAut, zAut)).toArray 228)).setCells (n + 1 + 1 + 1) 0 (prC (node, sib))).setCells (n + 1 + 1 + 1) 0 (prC (sib, node))).setCell ⟨lb, 0, none⟩ (.int .i64 ((level : Int) + 1)))) := fun w0 h0 hz hl => (HGXc.out w0 h0 hz).setOwn hl _
    have KK : Hid (Kt (((((((W.alloc (.cells (bC sib).toArray 75)).alloc (.cells (prC (zAut, zAut)).toArray 228)).alloc (.cells (bC zAut).toArray 75)).alloc (.cells (prC (zAut, zAut)).toArray 228)).setCells (n + 1 + 1 + 1) 0 (prC (node, sib))).setCells (n + 1 + 1 + 1) 0 (prC (sib, node))).setCell ⟨lb, 0, none⟩ (.int .i64 ((level : Int) + 1)))) := HKT.out.of_block (KE.out _ (by have := HKT.out.lt; have := HKZ.out; omega) hcl)
    clear x2 x3 x3o x4 g1 g2 g3 g4 g5 g6 g7 g8 g9 n1 n2 n3 n4 n5
    generalize ((((((W.alloc (.cells (bC sib).toArray 75)).alloc (.cells (prC (zAut, zAut)).toArray 228)).alloc (.cells (bC zAut).toArray 75)).alloc (.cells (prC (zAut, zAut)).toArray 228)).setCells (n + 1 + 1 + 1) 0 (prC (node, sib))).setCells (n + 1 + 1 + 1) 0 (prC (sib, node))).setCell ⟨lb, 0, none⟩ (.int .i64 ((level : Int) + 1)) = Y at *
    have HJ : Calls Tryz.prog 60 #[.int .i64 ((level : Int) + 1), .agg (bC sib).toArray, .agg (bC node).toArray] Y fun e w' => e = .returned (.agg (bC (joinV (level + 1) sib node)).toArray) ∧ Gr Y w' := joinC (level + 1) sib node Y KK.out
    have HPR : Hid (pairV index level node sib = (sib, node)) := by show _ = _; unfold pairV; rw [hs]; rw [if_pos hq]
    obtain ⟨j, hj⟩ : ∃ j, joinV (level + 1) sib node = j := ⟨_, rfl⟩
    rw [hj] at HJ
    refine HJ.mono ?_
    rintro e w5 ⟨rfl, hg5⟩
    have q1 := (hg5.block (by have := KZ.out; omega)).trans ((KE.out nb (by omega) hnl).trans HK1.out)
    have q2 := (hg5.block (by have := KZ.out; omega)).trans K3.out
    have q3 := (hg5.block (by have := KZ.out; omega)).trans ((KE.out (n + 1) (by omega) (by omega)).trans HK5.out)
    have q4 := (hg5.block (by have := KZ.out; omega)).trans ((KE.out (n + 1 + 1) (by omega) (by omega)).trans HK6.out)
    have t1 := hasRow_block q1 0 16 (by simp [bC16_len])
    have t2 := freeRow_block q1 0 16
    have t3 := lt_of_heap q1
    have t4 := bC16_len j
    have t5 := bC16_one j
    have t6 := prC_len (sib, node)
    have t7 := prC_one (sib, node)
    have Z1 : (w5.setCells nb 0 (bC j)).heap[nb]? = some (.cells (bC j).toArray 75 (0, 0)) := sets_whole q1 (by simp [bC16_len])
    have Z2 : (w5.setCells nb 0 (bC j)).heap[n + 1 + 1 + 1]? = some (.cells (prC (sib, node)).toArray 228 (0, 0)) := (sets_other (by omega) _ _ _).trans q2
    have Z3 : (w5.setCells nb 0 (bC j)).heap[n + 1]? = some (.cells (prC (zAut, zAut)).toArray 228 (0, 0)) := (sets_other (by omega) _ _ _).trans q3
    have Z4 : (w5.setCells nb 0 (bC j)).heap[n + 1 + 1]? = some (.cells (bC zAut).toArray 75 (0, 0)) := (sets_other (by omega) _ _ _).trans q4
    have a1 := hasRow_block Z1 0 16 (by simp [bC16_len])
    have a2 := (rowAt_block Z1 0 16 (by simp [bC16_len])).trans (rowOf_all _ _ (bC16_len j))
    have a3 := hasRow_block Z2 0 32 (by rw [prC_len]; decide)
    have a4 := (rowAt_block Z2 0 32 (by rw [prC_len]; decide)).trans (rowOf_all _ _ (prC_len _))
    have a5 := hasRow_block Z3 0 32 (by rw [prC_len]; decide)
    have a6 := freeRow_block Z3 0 32
    have a7 := hasRow_block Z4 0 16 (by simp [bC16_len])
    have a8 := freeRow_block Z4 0 16
    have a9 := lt_of_heap Z1; have a10 := lt_of_heap Z2; have a11 := lt_of_heap Z3; have a12 := lt_of_heap Z4
    have Y1 : ((w5.setCells nb 0 (bC j)).drew.setCells (n + 1) 0 (prC (sib, node))).heap[nb]? = some (.cells (bC j).toArray 75 (0, 0)) := (sets_other (by omega) _ _ _).trans Z1
    have Y4 : ((w5.setCells nb 0 (bC j)).drew.setCells (n + 1) 0 (prC (sib, node))).heap[n + 1 + 1]? = some (.cells (bC zAut).toArray 75 (0, 0)) := (sets_other (by omega) _ _ _).trans Z4
    have d1 := hasRow_block Y1 0 16 (by simp [bC16_len])
    have d2 := (rowAt_block Y1 0 16 (by simp [bC16_len])).trans (rowOf_all _ _ (bC16_len j))
    have d3 := hasRow_block Y4 0 16 (by simp [bC16_len])
    have d4 := freeRow_block Y4 0 16
    have d5 := lt_of_heap Y1; have d6 := lt_of_heap Y4
    have R1 : Hid ((((w5.setCells nb 0 (bC j)).drew.setCells (n + 1) 0 (prC (sib, node))).setCells (n + 1 + 1) 0 (bC j)).heap[n + 1]? = some (.cells (prC (sib, node)).toArray 228 (0, 0))) := (sets_other (by omega) _ _ _).trans (sets_whole Z3 (by rw [prC_len, prC_len]))
    have R2 : Hid ((((w5.setCells nb 0 (bC j)).drew.setCells (n + 1) 0 (prC (sib, node))).setCells (n + 1 + 1) 0 (bC j)).heap[n + 1 + 1]? = some (.cells (bC j).toArray 75 (0, 0))) := sets_whole Y4 (by simp [bC16_len])
    have R3 : Hid (∀ i, i < n + 1 → (((w5.setCells nb 0 (bC j)).drew.setCells (n + 1) 0 (prC (sib, node))).setCells (n + 1 + 1) 0 (bC j)).heap[i]? = (w5.setCells nb 0 (bC j)).heap[i]?) := fun i hi => (sets_other (by omega) _ _ _).trans (sets_other (by omega) _ _ _)
    have R4 : Hid (∀ w0, Gr w0 W → w0.heap.size ≤ nb → w0.heap.size ≤ lb → Gr w0 (((w5.setCells nb 0 (bC j)).drew.setCells (n + 1) 0 (prC (sib, node))).setCells (n + 1 + 1) 0 (bC j))) := fun w0 h0 hb hl => (((((KG.out w0 h0 (by omega) hl).trans hg5).setsOwn hb _ 0).drew).setsOwn (by omega) _ 0).setsOwn (by omega) _ 0
    have R5 : Hid (n ≤ (((w5.setCells nb 0 (bC j)).drew.setCells (n + 1) 0 (prC (sib, node))).setCells (n + 1 + 1) 0 (bC j)).heap.size) := by show _ ≤ _; rw [sets_size, sets_size, World.size_drew, sets_size]; have := hg5.size; have := KZ.out; omega
    have R6 : Hid ((w5.setCells nb 0 (bC j)).heap[lb]? = some (.cells #[.int .i64 ((level : Int) + 1)] 3 (0, 0))) := (sets_other (by omega) _ _ _).trans ((hg5.block (by have := KZ.out; omega)).trans KL.out)
    have R7 : Hid (∀ i, i < n → i ≠ nb → i ≠ lb → (w5.setCells nb 0 (bC j)).heap[i]? = W.heap[i]?) := fun i hi h1 h2 => (sets_other h1 _ _ _).trans ((hg5.block (by have := KZ.out; omega)).trans ((KE.out i (by omega) h2).trans (HGV0.out.block (by omega))))
    have Z1h := Lib.hid Z1
    clear q1 q2 q3 q4 Z1 Z2 Z3 Z4 Y1 Y4 HJ
    go_wp2_with fail
    go_region_law (fail)
    all_goals
      go_wp2_with fail
      refine bodyPost_ret (results_cell2 rfl _ _ (n + 1) (n + 1 + 1) _ _ _ _ _ _ _ _ rfl rfl R1.out R2.out Tryz.underlying228 Tryz.underlying75 rfl rfl (sizePr _) (sizeNode _)) rfl ?_
      rw [HPR.out]
      refine ⟨by rw [← hj], ?_, ?_, by rw [HN.out]; exact R5.out, fun i hi h1 h2 => (R3.out i (by have := HN.out; omega)).trans (R7.out i (by have := HN.out; omega) h1 h2), R4.out⟩
      · show _ = some (Obj.cells (bC (joinV (level + 1) sib node)).toArray _ _)
        rw [hj]; exact (R3.out nb (by omega)).trans Z1h.out
      · exact (R3.out lb (by omega)).trans R6.out
end Go.Proofs.YteknmbijodbfoaaGreatDoor

namespace Go.Proofs.YteknmbijodbfoaaGreatDoor
open Go.RowKit

/-- The end of a region that makes memory in an order that is drawn: two block numbers, a world. -/
def AtEndB (A : Nat → Nat → Act) (R : Nat → Nat → World → Prop) (e : Exit) (a : Act) (w : World) : Prop := match e with | .normal => ∃ x m, R x m w ∧ a = A x m | _ => False
theorem wp_toB {P : Program} {c : Code} {Q' : Exit → Act → World → Prop} {a : Act} {w : World} (A : Nat → Nat → Act) (R : Nat → Nat → World → Prop) (h : c.wp P (AtEndB A R) a w) (hq : ∀ x m W, R x m W → Q' .normal (A x m) W) : c.wp P Q' a w :=
  Code.wp_mono (fun e a w h => by cases e <;> first | exact h.elim | (obtain ⟨x, n, h2, h3⟩ := h; subst h3; exact hq x n w h2)) h
theorem climbV_take (index : Nat) (leaf : V16) (l : List V16) (k : Nat) (h : k < l.length) : climbV index 0 leaf (l.take (k + 1)) = joinV (k + 1) (pairV index k (climbV index 0 leaf (l.take k)) l[k]).1 (pairV index k (climbV index 0 leaf (l.take k)) l[k]).2 := by
  rw [List.take_succ_eq_append_getElem h, climbV_app, List.length_take, Nat.min_eq_left (Nat.le_of_lt h), Nat.zero_add]; rfl
set_option maxRecDepth 100000 in
set_option maxHeartbeats 2000000 in
theorem climbC (leaf : V16) (index : Nat) (W : World) : Calls Tryz.prog 135 #[.agg (bC leaf).toArray, .int .i64 (index : Int)] W fun e W' =>
    e = .returned (.func (.func 171) #[] #[.pointer (some ⟨W.heap.size + 2, 0, none⟩), .pointer (some ⟨W.heap.size + 1, 0, none⟩), .pointer (some ⟨W.heap.size + 3, 0, none⟩)]) ∧
    W'.heap[W.heap.size + 1]? = some (.cells #[.int .i64 (index : Int)] 3 (0, 0)) ∧ W'.heap[W.heap.size + 2]? = some (.cells (bC leaf).toArray 75 (0, 0)) ∧ W'.heap[W.heap.size + 3]? = some (.cells #[.int .i64 0] 3 (0, 0)) ∧ Gr W W' := by
  obtain ⟨n, hn⟩ : ∃ n, W.heap.size = n := ⟨_, rfl⟩
  have HN := Lib.hid hn
  have b1 := bC16_len leaf
  have b2 := bC16_one leaf
  have g4 : Gr W ((((W.alloc (.cells (bC leaf).toArray 75)).alloc (.cells #[.int .i64 (index : Int)] 3)).alloc (.cells (bC zAut).toArray 75)).alloc (.cells #[.int .i64 0] 3)) := ((((Gr.refl W).alloc _).alloc _).alloc _).alloc _
  have h1 : ((((W.alloc (.cells (bC leaf).toArray 75)).alloc (.cells #[.int .i64 (index : Int)] 3)).alloc (.cells (bC zAut).toArray 75)).alloc (.cells #[.int .i64 0] 3)).heap[n + 1]? = some (.cells #[.int .i64 (index : Int)] 3 (0, 0)) := ((((Gr.refl _).alloc _).alloc _).block (by simp; omega)).trans (heap_new _ _ _ (by simp; omega))
  have h2 : ((((W.alloc (.cells (bC leaf).toArray 75)).alloc (.cells #[.int .i64 (index : Int)] 3)).alloc (.cells (bC zAut).toArray 75)).alloc (.cells #[.int .i64 0] 3)).heap[n + 1 + 1]? = some (.cells (bC zAut).toArray 75 (0, 0)) := (((Gr.refl _).alloc _).block (by simp; omega)).trans (heap_new _ _ _ (by simp; omega))
  have h3 : ((((W.alloc (.cells (bC leaf).toArray 75)).alloc (.cells #[.int .i64 (index : Int)] 3)).alloc (.cells (bC zAut).toArray 75)).alloc (.cells #[.int .i64 0] 3)).heap[n + 1 + 1 + 1]? = some (.cells #[.int .i64 0] 3 (0, 0)) := heap_new _ _ _ (by simp; omega)
  have k1 : (((((W.alloc (.cells (bC leaf).toArray 75)).alloc (.cells #[.int .i64 (index : Int)] 3)).alloc (.cells (bC zAut).toArray 75)).alloc (.cells #[.int .i64 0] 3)).setCells (n + 1 + 1) 0 (bC leaf)).heap[n + 1]? = some (.cells #[.int .i64 (index : Int)] 3 (0, 0)) := (sets_other (by omega) _ _ _).trans h1
  have k2 : (((((W.alloc (.cells (bC leaf).toArray 75)).alloc (.cells #[.int .i64 (index : Int)] 3)).alloc (.cells (bC zAut).toArray 75)).alloc (.cells #[.int .i64 0] 3)).setCells (n + 1 + 1) 0 (bC leaf)).heap[n + 1 + 1]? = some (.cells (bC leaf).toArray 75 (0, 0)) := sets_whole h2 (by simp [bC16_len])
  have k3 : (((((W.alloc (.cells (bC leaf).toArray 75)).alloc (.cells #[.int .i64 (index : Int)] 3)).alloc (.cells (bC zAut).toArray 75)).alloc (.cells #[.int .i64 0] 3)).setCells (n + 1 + 1) 0 (bC leaf)).heap[n + 1 + 1 + 1]? = some (.cells #[.int .i64 0] 3 (0, 0)) := (sets_other (by omega) _ _ _).trans h3
  have x1 : (((((W.alloc (.cells (bC leaf).toArray 75)).alloc (.cells #[.int .i64 (index : Int)] 3)).alloc (.cells (bC zAut).toArray 75)).alloc (.cells #[.int .i64 0] 3)).setCells (n + 1 + 1) 0 (bC leaf)).cell? ⟨n + 1 + 1 + 1, 0, none⟩ = some (.int .i64 0) := cell_block (cs := [.int .i64 0]) k3 0
  have x2 : (((((W.alloc (.cells (bC leaf).toArray 75)).alloc (.cells #[.int .i64 (index : Int)] 3)).alloc (.cells (bC zAut).toArray 75)).alloc (.cells #[.int .i64 0] 3)).setCells (n + 1 + 1) 0 (bC leaf)).frozen? ⟨n + 1 + 1 + 1, 0, none⟩ = false := free_block (cs := [.int .i64 0]) k3 0
  have x3 := lt_of_heap k3
  have r1 := hasRow_block h2 0 16 (by simp [bC16_len])
  have r2 := freeRow_block h2 0 16
  have r3 := lt_of_heap h2
  have HG : Hid (Gr W (((((W.alloc (.cells (bC leaf).toArray 75)).alloc (.cells #[.int .i64 (index : Int)] 3)).alloc (.cells (bC zAut).toArray 75)).alloc (.cells #[.int .i64 0] 3)).setCells (n + 1 + 1) 0 (bC leaf))) := g4.setsOwn (b := n + 1 + 1) (by omega) _ 0
  have K1 := Lib.hid k1; have K2 := Lib.hid k2; have K3 := Lib.hid k3
  clear g4 h1 h2 h3 k1 k2 k3
  go_enter Tryz.func135, Tryz.ntmps135
  go_wp2_with fail
  generalize ((((W.alloc (.cells (bC leaf).toArray 75)).alloc (.cells #[.int .i64 (index : Int)] 3)).alloc (.cells (bC zAut).toArray 75)).alloc (.cells #[.int .i64 0] 3)).setCells (n + 1 + 1) 0 (bC leaf) = X at *
  go_ret
  refine ⟨by rw [HN.out]; rfl, ?_, ?_, ?_, HG.out.setOwn (by omega) _⟩
  · rw [HN.out]; exact (heap_setCell_other _ ⟨n + 1 + 1 + 1, 0, none⟩ (n + 1) _ (by show n + 1 ≠ n + 1 + 1 + 1; omega)).trans K1.out
  · rw [HN.out]; exact (heap_setCell_other _ ⟨n + 1 + 1 + 1, 0, none⟩ (n + 2) _ (by show n + 2 ≠ n + 1 + 1 + 1; omega)).trans K2.out
  · rw [HN.out]
    show (X.setCell ⟨n + 1 + 1 + 1, 0, none⟩ (.int .i64 0)).heap[n + 1 + 1 + 1]? = _
    rw [heap_setCell_same _ (n + 1 + 1 + 1) 0 _ _ _ K3.out]; simp
set_option maxRecDepth 100000 in
set_option maxHeartbeats 2000000 in
theorem fromC (leaf : V16) (index : Nat) (v : Value) (l : List V16) (hl0 : l ≠ []) (hl : l.length ≤ 8) (hix : index < 2 ^ l.length) (w : World) (hK : Kt w) (hv : Nds w v l) :
    Calls Tryz.prog 106 #[.agg (bC leaf).toArray, .int .i64 (index : Int), v] w fun e w' => e = .returned (.tuple #[.agg (bC (climbV index 0 leaf l)).toArray, .int .i64 0]) ∧ Gr w w' := by
  obtain ⟨n, hn⟩ : ∃ n, w.heap.size = n := ⟨_, rfl⟩
  have HN := Lib.hid hn
  obtain ⟨N, hN⟩ : ∃ N, l.length = N := ⟨_, rfl⟩
  rw [hN] at hl hix
  obtain ⟨b, k, c, rfl, hc, hj⟩ := hv.at hl0 N hN
  have HJ := Lib.hid hj
  have HNL := Lib.hid hN
  have eg : ∀ args w, (callFunc 171 args).run Tryz.prog w = .ok (.enter 171 args) w := enters_of Tryz.func171 (by kernel_rfl) rfl
  have HK := Lib.hid hK
  have n1 : ¬ 10 < (N : Int) := by omega
  have i1 : (0 : Int) ≤ (index : Int) := by omega
  have i2 : (N : Int) ≤ 63 := by omega
  have hpw : index < 256 := Nat.lt_of_lt_of_le hix (Nat.pow_le_pow_right (by decide) hl)
  have hw64 : wrap64 ((2 : Int) ^ N) = ((2 ^ N : Nat) : Int) := by
    have h : ∀ N : Fin 9, wrap64 ((2 : Int) ^ N.val) = ((2 ^ N.val : Nat) : Int) := by decide +kernel
    exact h ⟨N, by omega⟩
  have i3 : (index : Int) < wrap64 ((2 : Int) ^ N) := by rw [hw64]; exact_mod_cast hix
  clear hj hN hv hK hw64
  have b1 := bC16_len leaf
  have b2 := bC16_one leaf
  have HB : Hid (((w.alloc (.cells (bC leaf).toArray 75)).alloc (.cells (bC zAut).toArray 75)).heap[n]? = some (.cells (bC leaf).toArray 75 (0, 0))) := (((Gr.refl _).alloc _).block (by simp; omega)).trans (heap_new _ _ _ hn.symm)
  have HZ : Hid (((w.alloc (.cells (bC leaf).toArray 75)).alloc (.cells (bC zAut).toArray 75)).heap[n + 1]? = some (.cells (bC zAut).toArray 75 (0, 0))) := heap_new _ _ _ (by simp; omega)
  have HG : Hid (Gr w ((w.alloc (.cells (bC leaf).toArray 75)).alloc (.cells (bC zAut).toArray 75))) := ((Gr.refl w).alloc _).alloc _
  go_enter Tryz.func106, Tryz.ntmps106
  go_wp2_with fail
  try simp only [hn]
  generalize (w.alloc (.cells (bC leaf).toArray 75)).alloc (.cells (bC zAut).toArray 75) = U0 at *
  clear hn
  have KS : Hid (∀ W, Gr U0 W → hasRow W ⟨n, 0, none⟩ 16 = true ∧ rowAt W ⟨n, 0, none⟩ 16 = bC leaf ∧ n < W.heap.size) := fun W hW => by
    have hh := (hW.block (lt_of_heap HB.out)).trans HB.out
    exact ⟨hasRow_block hh 0 16 (by simp [bC16_len]), (rowAt_block hh 0 16 (by simp [bC16_len])).trans (rowOf_all _ _ (bC16_len leaf)), lt_of_heap hh⟩
  obtain ⟨r1, r2, r3⟩ := KS.out U0 (Gr.refl U0)
  obtain ⟨r4, r5, r6⟩ := KS.out _ ((Gr.refl U0).alloc (.cells (bC zAut).toArray 75))
  apply wp_toB (R := fun x m W' => Hid (W'.heap[x]? = some (.cells (bC leaf).toArray 75 (0, 0))) ∧ Hid (W'.heap[m + 1]? = some (.cells #[.int .i64 (index : Int)] 3 (0, 0))) ∧ Hid (W'.heap[m + 2]? = some (.cells (bC leaf).toArray 75 (0, 0))) ∧ Hid (W'.heap[m + 3]? = some (.cells #[.int .i64 0] 3 (0, 0))) ∧ Hid (Gr U0 W') ∧ Hid (n + 2 ≤ x ∧ n + 2 ≤ m ∧ (x < m ∨ m + 3 < x)))
  case h =>
    go_region_law (first
      | (go_simp; go_at_call 135; refine (climbC leaf index _).mono ?_; rintro e w1 ⟨rfl, hi1, hn1, hl1, hg1⟩; have G1 : Gr U0 w1 := (by first | exact (Gr.refl U0).drew.trans hg1 | exact ((Gr.refl U0).alloc _).drew.trans hg1 | exact ((Gr.refl U0).drew.alloc _).trans hg1); obtain ⟨s1, s2, s3⟩ := KS.out w1 G1; obtain ⟨s4, s5, s6⟩ := KS.out _ (G1.alloc (.cells (bC zAut).toArray 75));
         have h8 : w1.heap[U0.heap.size]? = some (.cells (bC zAut).toArray 75 (0, 0)) ∨ True := (by first | exact .inl ((hg1.block (by simp)).trans (heap_alloc_new U0 _)) | exact .inr trivial);
         first
           | (have h9 : w1.heap[U0.heap.size]? = some (.cells (bC zAut).toArray 75 (0, 0)) := (hg1.block (by simp)).trans (heap_alloc_new U0 _); have t1 := hasRow_block h9 0 16 (by simp [bC16_len]); have t2 := freeRow_block h9 0 16; have t3 := lt_of_heap h9)
           | (have h9 : (w1.alloc (.cells (bC zAut).toArray 75)).heap[w1.heap.size]? = some (.cells (bC zAut).toArray 75 (0, 0)) := heap_alloc_new w1 _; have t1 := hasRow_block h9 0 16 (by simp [bC16_len]); have t2 := freeRow_block h9 0 16; have t3 := lt_of_heap h9)))
    all_goals
      have hx0 : n + 2 ≤ U0.heap.size := lt_of_heap HZ.out
      simp only [World.size_alloc, World.size_drew] at hi1 hn1 hl1 h9
      first
        | (obtain ⟨m, hm⟩ : ∃ m, U0.heap.size + 1 = m := ⟨_, rfl⟩
           rw [hm] at hi1 hn1 hl1
           obtain ⟨x, hx⟩ : ∃ x, U0.heap.size = x := ⟨_, rfl⟩
           have hR : Hid ((w1.setCells x 0 (bC leaf)).heap[x]? = some (.cells (bC leaf).toArray 75 (0, 0))) ∧ Hid ((w1.setCells x 0 (bC leaf)).heap[m + 1]? = some (.cells #[.int .i64 (index : Int)] 3 (0, 0))) ∧ Hid ((w1.setCells x 0 (bC leaf)).heap[m + 2]? = some (.cells (bC leaf).toArray 75 (0, 0))) ∧ Hid ((w1.setCells x 0 (bC leaf)).heap[m + 3]? = some (.cells #[.int .i64 0] 3 (0, 0))) ∧ Hid (Gr U0 (w1.setCells x 0 (bC leaf))) ∧ Hid (n + 2 ≤ x ∧ n + 2 ≤ m ∧ (x < m ∨ m + 3 < x)) :=
             ⟨sets_whole (hx ▸ h9) (by simp [bC16_len]), (sets_other (by omega) _ _ _).trans hi1, (sets_other (by omega) _ _ _).trans hn1, (sets_other (by omega) _ _ _).trans hl1, G1.setsOwn (by omega) _ 0, ⟨by omega, by omega, by omega⟩⟩
           rw [hm, hx]
           exact ⟨x, m, hR, rfl⟩)
        | (obtain ⟨m, hm⟩ : ∃ m, U0.heap.size = m := ⟨_, rfl⟩
           rw [hm] at hi1 hn1 hl1
           have hg9 := (Gr.refl w1).alloc (.cells (bC zAut).toArray 75)
           obtain ⟨x, hx⟩ : ∃ x, w1.heap.size = x := ⟨_, rfl⟩
           have hl9 := lt_of_heap hl1
           have hR : Hid ((w1.alloc (.cells (bC leaf).toArray 75)).heap[x]? = some (.cells (bC leaf).toArray 75 (0, 0))) ∧ Hid ((w1.alloc (.cells (bC leaf).toArray 75)).heap[m + 1]? = some (.cells #[.int .i64 (index : Int)] 3 (0, 0))) ∧ Hid ((w1.alloc (.cells (bC leaf).toArray 75)).heap[m + 2]? = some (.cells (bC leaf).toArray 75 (0, 0))) ∧ Hid ((w1.alloc (.cells (bC leaf).toArray 75)).heap[m + 3]? = some (.cells #[.int .i64 0] 3 (0, 0))) ∧ Hid (Gr U0 (w1.alloc (.cells (bC leaf).toArray 75))) ∧ Hid (n + 2 ≤ x ∧ n + 2 ≤ m ∧ (x < m ∨ m + 3 < x)) :=
             ⟨heap_new _ _ _ hx.symm, (((Gr.refl w1).alloc _).block (by omega)).trans hi1, (((Gr.refl w1).alloc _).block (by omega)).trans hn1, (((Gr.refl w1).alloc _).block (by omega)).trans hl1, G1.alloc _, ⟨by omega, by omega, by omega⟩⟩
           simp only [hm, hx]
           exact ⟨x, m, hR, rfl⟩)
        | trace_state
  rintro X M W1 ⟨k0, k1, k2, k3, kg, kb⟩
  have HZ1 := Lib.hid ((kg.out.block (lt_of_heap HZ.out)).trans HZ.out)
  have HG1 := Lib.hid (HG.out.trans kg.out)
  have HCN : Hid (3 < n) := by show _ < _; have := HK.out.lt; have := HN.out; omega
  have HT : Hid (∀ q (h : q < l.length), climbV index 0 leaf (l.take (q + 1)) = joinV (q + 1) (pairV index q (climbV index 0 leaf (l.take q)) l[q]).1 (pairV index q (climbV index 0 leaf (l.take q)) l[q]).2) := climbV_take index leaf l
  clear KS r1 r2 r3 r4 r5 r6
  go_wp2_with fail
  go_loopw [11, 32, 33, 34, 35, 36, 37, 38, 39, 40, 41, 42] (fun _ i _ _ _ _ _ _ _ _ _ _ wr => ∃ q : Nat, q ≤ N ∧ i = .int .i64 (q : Int) ∧ Hid (wr.heap[X]? = some (.cells (bC (climbV index 0 leaf (l.take q))).toArray 75 (0, 0))) ∧ Hid (wr.heap[M + 1]? = some (.cells #[.int .i64 (index : Int)] 3 (0, 0))) ∧ Hid (wr.heap[M + 2]? = some (.cells (bC (climbV index 0 leaf (l.take q))).toArray 75 (0, 0))) ∧ Hid (wr.heap[M + 3]? = some (.cells #[.int .i64 (q : Int)] 3 (0, 0))) ∧ Hid (wr.heap[n + 1]? = some (.cells (bC zAut).toArray 75 (0, 0))) ∧ Hid (Gr w wr)) (fun _ i _ _ _ _ _ _ _ _ _ _ _ => N - (intOf i).toNat)
  case atStart => exact ⟨0, Nat.zero_le _, rfl, k0.out, k1.out, k2.out, k3.out, HZ1.out, HG1.out⟩
  case round =>
    obtain ⟨q, hq, rfl, h0, h1, h2, h3, hZ, hG⟩ := hrel
    by_cases hlt : q < N
    · have hk1 : (q : Int) < (N : Int) := by omega
      have hk2 : (0 : Int) ≤ (q : Int) := by omega
      have hql : q < l.length := by have := HNL.out; omega
      have hTq := HT.out q hql
      have d0 := (HJ.out q _ (List.getElem?_eq_getElem hql)).gr hG.out
      generalize l[q] = x at *
      have y1 := d0.h
      have y2 := d0.r
      have y3 := d0.z
      have b3 := bC16_len x
      have b4 := bC16_one x
      generalize hnd : climbV index 0 leaf (l.take q) = nd at *
      have hgA := (Gr.refl wr).alloc (.cells (bC x).toArray 75)
      have hx9 := heap_alloc_new wr (.cells (bC x).toArray 75)
      have y4 := hasRow_block hx9 0 16 (by simp [bC16_len])
      have y5 := (rowAt_block hx9 0 16 (by simp [bC16_len])).trans (rowOf_all _ _ (bC16_len x))
      have y6 := lt_of_heap hx9
      have HC := climb1C (M + 2) (M + 1) (M + 3) (by omega) (by omega) (by omega) index q (by omega) (by omega) nd x _ (HK.out.gr (hG.out.trans hgA)) (by have := HCN.out; have := kb.out; omega) (by have := HCN.out; have := kb.out; omega) ((hgA.block (lt_of_heap h2.out)).trans h2.out) ((hgA.block (lt_of_heap h1.out)).trans h1.out) ((hgA.block (lt_of_heap h3.out)).trans h3.out)
      rw [← hTq] at HC
      obtain ⟨pr, hpr⟩ : ∃ pr, pairV index q nd x = pr := ⟨_, rfl⟩
      rw [hpr] at HC
      obtain ⟨j, hj⟩ : ∃ j, climbV index 0 leaf (l.take (q + 1)) = j := ⟨_, rfl⟩
      rw [hj] at HC
      have HJJ := Lib.hid hj
      have b5 := bC16_len j
      have b6 := bC16_one j
      have V0 := Lib.hid ((hgA.block (lt_of_heap h0.out)).trans h0.out)
      have V1 := Lib.hid ((hgA.block (lt_of_heap h1.out)).trans h1.out)
      have VZ := Lib.hid ((hgA.block (lt_of_heap hZ.out)).trans hZ.out)
      have VG := Lib.hid (hG.out.trans hgA)
      have l0 := lt_of_heap V0.out
      have l1 := lt_of_heap V1.out
      have lz := lt_of_heap VZ.out
      have HL := Lib.hid (And.intro l0 (And.intro l1 lz))
      clear hgA hx9 hj hpr hTq hnd d0 l0 l1 lz
      go_wp2_with (go_at_call 171; refine HC.mono ?_; clear HC; rintro e w2 ⟨rfl, hw1, hw2, hw3, hw4, hw5⟩; have p0 := (hw4 X HL.out.1 (by have := kb.out; omega) (by have := kb.out; omega)).trans V0.out; have q0 := hasRow_block p0 0 16 (by simp [bC16_len]); have q1 := freeRow_block p0 0 16; have q2 := lt_of_heap p0; have HP := Lib.hid p0; have HW := Lib.hid (And.intro hw1 (And.intro hw2 (And.intro hw3 (And.intro hw4 hw5)))); clear p0 hw1 hw2 hw3 hw4 hw5)
      go_roundw
      case rel =>
        have kb' := kb.out
        refine ⟨q + 1, by omega, by go_num, ?_, ?_, ?_, ?_, ?_, ?_⟩
        · show Hid _
          rw [HJJ.out]; exact sets_whole HP.out (by simp [bC16_len])
        · exact (sets_other (by omega) _ _ _).trans ((HW.out.2.2.2.1 _ HL.out.2.1 (by omega) (by omega)).trans V1.out)
        · show Hid _
          rw [HJJ.out]; exact (sets_other (by omega) _ _ _).trans HW.out.1
        · exact (sets_other (by omega) _ _ _).trans HW.out.2.1
        · exact (sets_other (by omega) _ _ _).trans ((HW.out.2.2.2.1 _ HL.out.2.2 (by omega) (by omega)).trans VZ.out)
        · exact (HW.out.2.2.2.2 w VG.out (by have := HN.out; omega) (by have := HN.out; omega)).setsOwn (b := X) (by have := HN.out; omega) (bC j) 0
      case measure => simp [intOf]; omega
    · obtain rfl : q = N := by omega
      have e9 : l.take q = l := by rw [← HNL.out, List.take_length]
      rw [e9] at h0 h2
      obtain ⟨y, hy⟩ : ∃ y, climbV index 0 leaf l = y := ⟨_, rfl⟩
      rw [hy] at h0 h2
      have z0 := hasRow_block h0.out 0 16 (by simp [bC16_len])
      have z1 := (rowAt_block h0.out 0 16 (by simp [bC16_len])).trans (rowOf_all _ _ (bC16_len y))
      have z2 := lt_of_heap h0.out
      have z3 := hasRow_block hZ.out 0 16 (by simp [bC16_len])
      have z4 := freeRow_block hZ.out 0 16
      have z5 := lt_of_heap hZ.out
      have b3 := bC16_len y
      have b4 := bC16_one y
      go_wp2_with fail
      have HE : Hid ((wr.setCells (n + 1) 0 (bC y)).heap[n + 1]? = some (.cells (bC y).toArray 75 (0, 0))) := sets_whole hZ.out (by simp [bC16_len])
      have HG7 := Lib.hid (hG.out.setsOwn (b := n + 1) (by have := HN.out; omega) (bC y) 0)
      refine bodyPost_ret (results_cellT rfl _ _ (n + 1) _ _ _ _ rfl HE.out Tryz.underlying75 rfl (sizeNode _)) rfl ?_
      exact ⟨by rw [← hy]; rfl, HG7.out⟩
end Go.Proofs.YteknmbijodbfoaaGreatDoor

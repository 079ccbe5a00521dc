/- The statement's example holds. -/
import Derived.Test.YtemhfcfebkjioaaGreatDoorPlainK
namespace Go.Proofs.YtemhfcfebkjioaaGreatDoor
open Go.RowKit

/-- A build, as one word. -/
def bdR (P : Program) (t : TypeId) (ps : Array (Nat × Value)) (w : World) : Result Next := (do pure (Next.value (← Instr.build t ps)) : Sem Next).run P w
def bsR (P : Program) (t : TypeId) (n : Nat) (ps : Array (Nat × Value)) (w : World) : Result Next := (do pure (Next.value (← Instr.buildSlice t n ps)) : Sem Next).run P w
@[local go_sem ↓] theorem exec_build {P : Program} {t : TypeId} (ρ : Operand → Value) (d : Option Tmp) (ps : Array (Nat × Operand)) (ty : TypeId) (p : String) (af : Array Edge) (g : Option (Nat × Bool)) (w : World) :
    Sem.run P (execOp ρ ⟨d, .build t ps, ty, p, af, g⟩) w = bdR P t (ps.map fun x => (x.1, ρ x.2)) w := rfl
@[local go_sem ↓] theorem exec_bsl {P : Program} (ρ : Operand → Value) (d : Option Tmp) (ps : Array (Nat × Operand)) (ty : TypeId) (p : String) (af : Array Edge) (g : Option (Nat × Bool)) (w : World) :
    Sem.run P (execOp ρ ⟨d, .buildSlice 40 4 ps, ty, p, af, g⟩) w = bsR P 40 4 (ps.map fun x => (x.1, ρ x.2)) w := rfl
theorem bd_of {P : Program} {t : TypeId} {ps : Array (Nat × Value)} {v : Value} {w w' : World} (h : (Instr.build t ps).run P w = .ok v w') : bdR P t ps w = .ok (.value v) w' := by simp [bdR, h]
theorem bs_of {P : Program} {t : TypeId} {n : Nat} {ps : Array (Nat × Value)} {v : Value} {w w' : World} (h : (Instr.buildSlice t n ps).run P w = .ok v w') : bsR P t n ps w = .ok (.value v) w' := by simp [bsR, h]
@[local go_sem] theorem kCanc (i : Id) (a : Aut) (d : Int) (t : Id) (w : World) : bdR Tryz.prog 27 #[(0, .agg (bC i).toArray), (1, .agg (bC a).toArray), (2, .int .i64 d), (3, .agg (bC t).toArray)] w = .ok (.value (.agg (cancC ⟨i, a, d, t⟩).toArray)) w := bd_of (bldCanc i a d t w)
@[local go_sem] theorem kRw (i : Id) (a : Aut) (d : Int) (g : Option Addr) (n c : Nat) (w : World) : bdR Tryz.prog 31 #[(0, .agg (bC i).toArray), (1, .agg (bC a).toArray), (2, .int .i64 d), (3, .slice g n c)] w = .ok (.value (.agg (rwC ⟨i, a, d, .slice g n c, .slice none 0 0, zeroId⟩).toArray)) w := bd_of (bldRw i a d g n c w)
@[local go_sem] theorem kDfn (i : Id) (a : Aut) (g : ByteArray) (v : Int) (m : Bool) (ad : Option Addr) (n c : Nat) (w : World) : bdR Tryz.prog 52 #[(0, .agg (bC i).toArray), (1, .agg (bC a).toArray), (2, .string g), (3, .int .i64 v), (5, .bool m), (6, .slice ad n c)] w = .ok (.value (.agg (dfnC ⟨i, a, g, v, false, m, .slice ad n c, ⟨#[]⟩⟩).toArray)) w := bd_of (bldDfn i a g v m ad n c w)
@[local go_sem] theorem kSl4 (a b c d : Canc) (w : World) : bsR Tryz.prog 40 4 #[(0, .agg (cancC a).toArray), (1, .agg (cancC b).toArray), (2, .agg (cancC c).toArray), (3, .agg (cancC d).toArray)] w = .ok (.value (.slice (some ⟨w.heap.size, 0, none⟩) 4 4)) (w.alloc (.cells ([a, b, c, d].map cancC).flatten.toArray 27)) := bs_of (bldSl4 a b c d w)
@[local go_sem] theorem kAut1 (w : World) : bdR Tryz.prog 25 #[(0, .int .u8 1)] w = .ok (.value (.agg (bC (autK 1)).toArray)) w := bd_of (bldAut1 w)
@[local go_sem] theorem kAut2 (w : World) : bdR Tryz.prog 25 #[(0, .int .u8 2)] w = .ok (.value (.agg (bC (autK 2)).toArray)) w := bd_of (bldAut2 w)
@[local go_sem] theorem kAut3 (w : World) : bdR Tryz.prog 25 #[(0, .int .u8 3)] w = .ok (.value (.agg (bC (autK 3)).toArray)) w := bd_of (bldAut3 w)
@[local go_sem] theorem kAut9 (w : World) : bdR Tryz.prog 25 #[(0, .int .u8 9)] w = .ok (.value (.agg (bC (autK 9)).toArray)) w := bd_of (bldAut9 w)
@[local go_sem] theorem kId1 (w : World) : bdR Tryz.prog 23 #[(0, .int .u8 1)] w = .ok (.value (.agg (bC (idK 1)).toArray)) w := bd_of (bldId1 w)
@[local go_sem] theorem kId2 (w : World) : bdR Tryz.prog 23 #[(0, .int .u8 2)] w = .ok (.value (.agg (bC (idK 2)).toArray)) w := bd_of (bldId2 w)
@[local go_sem] theorem kId3 (w : World) : bdR Tryz.prog 23 #[(0, .int .u8 3)] w = .ok (.value (.agg (bC (idK 3)).toArray)) w := bd_of (bldId3 w)
@[local go_sem] theorem kId4 (w : World) : bdR Tryz.prog 23 #[(0, .int .u8 4)] w = .ok (.value (.agg (bC (idK 4)).toArray)) w := bd_of (bldId4 w)
@[local go_sem] theorem kId7 (w : World) : bdR Tryz.prog 23 #[(0, .int .u8 7)] w = .ok (.value (.agg (bC (idK 7)).toArray)) w := bd_of (bldId7 w)
@[local go_sem] theorem kId8 (w : World) : bdR Tryz.prog 23 #[(0, .int .u8 8)] w = .ok (.value (.agg (bC (idK 8)).toArray)) w := bd_of (bldId8 w)
@[local go_sem] theorem setCells_past (o : Obj) (b : Nat) : ∀ (cs : List Value) (k : Nat) (w : World), b < w.heap.size → (w.alloc o).setCells b k cs = (w.setCells b k cs).alloc o
  | [], _, _, _ => rfl
  | v :: cs, k, w, h => by
    show World.setCells ((w.alloc o).setCell ⟨b, k, none⟩ v) b (k + 1) cs = World.alloc (World.setCells (w.setCell ⟨b, k, none⟩ v) b (k + 1) cs) o
    rw [World.setCell_alloc_past o b k v h]
    exact setCells_past o b cs (k + 1) _ (by simpa using h)
theorem five (w : World) (a b c d e : Obj) : let W := ((((w.alloc a).alloc b).alloc c).alloc d).alloc e
    W.heap[w.heap.size]? = some a ∧ W.heap[w.heap.size + 1]? = some b ∧ W.heap[w.heap.size + 1 + 1]? = some c ∧ W.heap[w.heap.size + 1 + 1 + 1]? = some d ∧ W.heap[w.heap.size + 1 + 1 + 1 + 1]? = some e ∧ W.heap.size = w.heap.size + 5 := by
  refine ⟨?_, ?_, ?_, ?_, ?_, by simp⟩
  · exact (((((Gr.refl (w.alloc a)).alloc b).alloc c).alloc d).alloc e |>.block (b := w.heap.size) (by simp)).trans (heap_alloc_new w a)
  · exact ((((Gr.refl ((w.alloc a).alloc b)).alloc c).alloc d).alloc e |>.block (b := w.heap.size + 1) (by simp)).trans (heap_new (w.alloc a) b _ (by simp))
  · exact (((Gr.refl (((w.alloc a).alloc b).alloc c)).alloc d).alloc e |>.block (b := w.heap.size + 1 + 1) (by simp)).trans (heap_new ((w.alloc a).alloc b) c _ (by simp))
  · exact ((Gr.refl ((((w.alloc a).alloc b).alloc c).alloc d)).alloc e |>.block (b := w.heap.size + 1 + 1 + 1) (by simp)).trans (heap_new (((w.alloc a).alloc b).alloc c) d _ (by simp))
  · exact heap_new ((((w.alloc a).alloc b).alloc c).alloc d) e _ (by simp)
set_option maxRecDepth 100000 in
set_option maxHeartbeats 1000000 in
theorem knownC (w : World) (hE : Env w) : Calls Tryz.prog 12 #[] w fun e w' => e = .returned (.bool true) ∧ Gr w w' := by
  have h6 := five w (.cells (bC (autK 1)).toArray 25) (.cells (bC (autK 2)).toArray 25) (.cells (bC (autK 3)).toArray 25) (.cells (bC (autK 2)).toArray 25) (.cells (dfnC (dfnK (.slice (some ⟨w.heap.size + 1 + 1 + 1, 0, none⟩) 1 1))).toArray 52)
  have hg5 := (((((Gr.refl w).alloc (.cells (bC (autK 1)).toArray 25)).alloc (.cells (bC (autK 2)).toArray 25)).alloc (.cells (bC (autK 3)).toArray 25)).alloc (.cells (bC (autK 2)).toArray 25)).alloc (.cells (dfnC (dfnK (.slice (some ⟨w.heap.size + 1 + 1 + 1, 0, none⟩) 1 1))).toArray 52)
  obtain ⟨a1, a2, a3, a4, a5, a6⟩ := h6
  have hdef : DefsAt _ (.slice (some ⟨w.heap.size + 1 + 1 + 1 + 1, 0, none⟩) 1 1) [(dfnK (.slice (some ⟨w.heap.size + 1 + 1 + 1, 0, none⟩) 1 1), [autK 2])] := ⟨one_row a5 (dfnC_length _), by
    intro e he
    simp at he; subst he
    exact one_row a4 (bC_length _)⟩
  have HM := Lib.hid (madeC _ _ _ (hE.gr hg5) hdef (by simp))
  have A1 := Lib.hid a1; have A2 := Lib.hid a2; have A3 := Lib.hid a3; have A6 := Lib.hid a6; have HG5 := Lib.hid hg5
  clear a1 a2 a3 a4 a5 a6 hg5 hdef hE
  go_enter Tryz.func12, Tryz.ntmps12
  go_wp2_with fail
  refine HM.out.mono ?_
  rintro e w2 ⟨br, ents, rfl, hreg, hvis, hg2⟩
  have b1 := (hg2.block (by rw [A6.out]; omega)).trans A1.out
  have b2 := (hg2.block (by rw [A6.out]; omega)).trans A2.out
  have b3 := (hg2.block (by rw [A6.out]; omega)).trans A3.out
  have r1 := hasRow_block b1 0 16 (by rw [bC_length]; decide)
  have r2 := hasRow_block b2 0 16 (by rw [bC_length]; decide)
  have r3 := hasRow_block b3 0 16 (by rw [bC_length]; decide)
  have q1 := (rowAt_block b1 0 16 (by rw [bC_length]; decide)).trans (rowOf_all _ _ (bC_length _))
  have q2 := (rowAt_block b2 0 16 (by rw [bC_length]; decide)).trans (rowOf_all _ _ (bC_length _))
  have q3 := (rowAt_block b3 0 16 (by rw [bC_length]; decide)).trans (rowOf_all _ _ (bC_length _))
  have z3 : w.heap.size + 1 + 1 < w2.heap.size := (Array.getElem?_eq_some_iff.1 b3).1
  have z1 : w.heap.size < w2.heap.size := by omega
  have z2 : w.heap.size + 1 < w2.heap.size := by omega
  have y1 : w.heap.size < w2.heap.size + 1 := by omega
  have y2 : w.heap.size + 1 < w2.heap.size + 1 := by omega
  have y3 : w.heap.size + 1 + 1 < w2.heap.size + 1 := by omega
  have HR := Lib.hid hreg; have HVS := Lib.hid hvis; have HG2 := Lib.hid (HG5.out.trans hg2)
  clear b1 b2 b3 hreg hvis hg2
  unfold ptrV
  go_wp2_with fail
  have hv1 : ents.map vis = [(idK 8, ⟨#[103, 46, 104]⟩, [autK 2])] := HVS.out.trans (madeK _)
  refine (byC (rwK (.slice (some ⟨w2.heap.size, 0, none⟩) 1 1)) [ghS] [yK1, yK2, yK3, yK4] _ (some br) ents _ (HR.out.gr ((((Gr.refl w2).alloc _).alloc _).alloc _)) ((strsAt_new w2 [ghS] 1).gr (((Gr.refl _).alloc _).alloc _)) (by decide) (slAt_flat (heap3 w2 _ _ _) (map_cancC_len _)) (by decide) (by kernel_rfl)).mono ?_
  rintro e w5 ⟨he, hg5⟩
  rw [byK _ hv1, show byId (some (minFrom yK1 [yK2])) = idK 2 from minK, Option.isSome_some] at he
  subst he
  have hrl := (hg5.trans ((Gr.refl w5).alloc (.cells (bC (idK 2)).toArray 23)))
  have bx := (hrl.block (b := w2.heap.size + 1) (by simp)).trans ((((Gr.refl _).alloc _).block (b := w2.heap.size + 1) (by simp)).trans (heap_alloc2_new w2 _ _))
  have bl4 := (hrl.block (b := w2.heap.size + 1 + 1) (by simp)).trans (heap3 w2 _ _ _)
  have bi := heap_alloc_new w5 (.cells (bC (idK 2)).toArray 23)
  have HREG := Lib.hid ((HR.out.gr ((((Gr.refl w2).alloc _).alloc _).alloc _)).gr hrl)
  have HSTR := Lib.hid (((strsAt_new w2 [ghS] 1).gr (((Gr.refl _).alloc (.cells (rwC (rwK (.slice (some ⟨w2.heap.size, 0, none⟩) 1 1))).toArray 31)).alloc (.cells ([yK1, yK2, yK3, yK4].map cancC).flatten.toArray 27))).gr hrl)
  go_wp2_with fail
  have hrows := map_cancC_len [yK1, yK2, yK3, yK4]
  have hfl := flat_len hrows
  have G6 := Lib.hid ((((HG2.out.alloc _).alloc _).alloc _).trans hrl)
  clear hrl
  generalize w5.alloc (.cells (bC (idK 2)).toArray 23) = w6 at *
  have u1 := hasRow_block bi 0 32 (by rw [bC_length]; decide)
  have u2 := (rowAt_block bi 0 32 (by rw [bC_length]; decide)).trans (rowOf_all _ _ (bC_length _))
  have u3 := hasRow_block bx 0 83 (by rw [rwC_length]; decide)
  have u4 : rowAt w6 ⟨w2.heap.size + 1, 0, none⟩ 83 = rwC (rwK (.slice (some ⟨w2.heap.size, 0, none⟩) 1 1)) := (rowAt_block bx 0 83 (by rw [rwC_length]; decide)).trans (rw_whole _)
  have v1 := hasRow_block bl4 0 81 (by rw [hfl]; decide)
  have v2 : rowAt w6 ⟨w2.heap.size + 1 + 1, 0, none⟩ 81 = cancC yK1 := (rowAt_block bl4 0 81 (by rw [hfl]; decide)).trans (flat_get hrows 0 (by simp))
  have v3 := hasRow_block bl4 162 81 (by rw [hfl]; decide)
  have v4 : rowAt w6 ⟨w2.heap.size + 1 + 1, 162, none⟩ 81 = cancC yK3 := (rowAt_block bl4 162 81 (by rw [hfl]; decide)).trans (flat_get hrows 2 (by simp))
  have v5 := hasRow_block bl4 243 81 (by rw [hfl]; decide)
  have v6 : rowAt w6 ⟨w2.heap.size + 1 + 1, 243, none⟩ 81 = cancC yK4 := (rowAt_block bl4 243 81 (by rw [hfl]; decide)).trans (flat_get hrows 3 (by simp))
  have x1 : w5.heap.size < w6.heap.size := hasRow_lt u1 (by decide)
  have x2 : w2.heap.size + 1 < w6.heap.size := hasRow_lt u3 (by decide)
  have x3 : w2.heap.size + 1 + 1 < w6.heap.size := hasRow_lt v1 (by decide)
  have HC : Hid (∀ (y : Canc) (p : GD), Calls Tryz.prog 15 #[.agg (cancC y).toArray, .agg (rwC (rwK (.slice (some ⟨w2.heap.size, 0, none⟩) 1 1))).toArray, .pointer (some ⟨br, 0, none⟩)] (gw w6 p) fun e w'' => e = .returned (.bool (countsB y (rwK (.slice (some ⟨w2.heap.size, 0, none⟩) 1 1)) [ghS] ents)) ∧ ∃ q : GD, w'' = gw w6 q) := fun y p => gr_call (countsC y (rwK (.slice (some ⟨w2.heap.size, 0, none⟩) 1 1)) [ghS] (some br) ents _ (HREG.out.gr (gr_gw w6 _)) (HSTR.out.gr (gr_gw w6 _)) (by decide))
  have HC1 := Lib.hid (HC.out yK1); have HC3 := Lib.hid (HC.out yK3); have HC4 := Lib.hid (HC.out yK4)
  rw [cK1 _ hv1] at HC1; rw [cK3 _ hv1] at HC3; rw [cK4 _ hv1] at HC4
  clear bx bl4 bi hrows hfl HC HREG HSTR
  refine wp_region_gr (by kernel_rfl) (by kernel_rfl) ?_
  repeat (go_big_quiet_step (first | (go_at_call 15; with_reducible exact HC1.out _) | (go_at_call 15; with_reducible exact HC3.out _) | (go_at_call 15; with_reducible exact HC4.out _)))
  refine wpQuiet_nil ?_
  rintro _ ⟨p, rfl⟩
  have hp := Lib.hid (G6.out.trans (gr_gw w6 p))
  generalize gw w6 p = U at *
  go_wp2_with fail
  go_ret
  exact ⟨rfl, hp.out⟩
theorem knownOk : ∀ w, Env w → Calls Tryz.prog 12 #[] w fun e w' => e = .returned (.bool true) ∧ Gr w w' := knownC
end Go.Proofs.YtemhfcfebkjioaaGreatDoor

/- control.Parse: what it returns, where a word names a reader. -/
import Derived.Test.YtcdcmohccbhchaaGreatDoorKFrm
namespace Go.Proofs.YtcdcmohccbhchaaGreatDoor
open Go.RowKit

theorem results_cell_tmp2 {P : Program} {fn : Func} {p u1 u2 : Tmp} {ty : TypeId} (h : fn.results = #[.cell p ty, .tmp u1, .tmp u2]) (tmps : Array Value) (w : World) (g : Nat) (t : TypeId) (cs : Array Value) (fr : Nat × Nat) (d : TypeDesc)
    (hp : tmps.getD p undef = .pointer (some ⟨g, 0, none⟩)) (hg : w.heap[g]? = some (.cells cs t fr))
    (hu : P.underlying ty = some d) (hd : (match d with | .struct _ | .array _ _ => true | _ => false) = true) (hi : (P.info? ty).map (·.size) = some cs.size) :
    (results fn tmps).run P w = .ok (.tuple #[.agg cs, tmps.getD u1 undef, tmps.getD u2 undef]) w := by
  have hp' : tmps[p]?.getD undef = .pointer (some ⟨g, 0, none⟩) := by simpa using hp
  simp [results, h, hp', asAddr, run_loadVar_row w g t ty cs fr d hg hu hd hi]
theorem formsR (w : World) : Calls Tryz.prog 51 #[] w fun e w' => ∃ (L : List (Fin 5)) (r : Nat), ((L.map pr).map (·.1)).Nodup ∧ (∀ k, k ∈ L) ∧ e = .returned (.map (some r)) ∧ w'.heap[r]? = some (.map (entL (L.map pr) 0).toArray (L.map pr).length) ∧ Gr w w' :=
  (formsC w).mono fun e w' ⟨L, hL, hall, he, hw⟩ => ⟨L, w.heap.size, by
    rw [List.Nodup, List.map_map, List.pairwise_map]
    exact hL.imp fun h e => h (keyK_inj _ _ e), hall, he, by rw [hw]; exact mapW_heap w.drew _, by rw [hw]; exact ((Gr.refl w).drew).alloc _⟩
theorem egK (k : Fin 5) : ∀ args w, (callFunc (fnK k) args).run Tryz.prog w = .ok (.enter (fnK k) args) w := by
  have : k = 0 ∨ k = 1 ∨ k = 2 ∨ k = 3 ∨ k = 4 := by omega
  rcases this with rfl | rfl | rfl | rfl | rfl
  · exact enters_of Tryz.func79 (by kernel_rfl) rfl
  · exact enters_of Tryz.func81 (by kernel_rfl) rfl
  · exact enters_of Tryz.func83 (by kernel_rfl) rfl
  · exact enters_of Tryz.func87 (by kernel_rfl) rfl
  · exact enters_of Tryz.func88 (by kernel_rfl) rfl
theorem run_stCells {P : Program} {w : World} {b k : Nat} {cs : List Value} (hr : hasRow w ⟨b, k, none⟩ cs.length = true) (hf : freeRow w ⟨b, k, none⟩ cs.length = true) (h1 : oneB cs = true) : (storeCells ⟨b, k, none⟩ cs).run P w = .ok () (w.setCells b k cs) := by
  have hs := run_storeCells_cells (P := P) b k cs 0 w (fun c hc => by have := hasRow_iff.1 hr c hc; rw [Addr.add_lit] at this; simpa using this) (fun c hc => by have := freeRow_iff.1 hf c hc; rw [Addr.add_lit] at this; simpa using this) (fun v hv => by simpa using List.all_eq_true.1 h1 v hv)
  rw [Nat.add_zero] at hs
  exact hs
/-- What is left of a reading: the command, or the first error. -/
def finS (n : Nat) (p : PS) : PS := if p.fin < n then p.fail p.fin 5 else p
def finP (n : Nat) (r : PS × Cm) : Cm × Nat × Int := if (finS n r.1).e ≠ 0 then (cm0 0, (finS n r.1).at_, (finS n r.1).e) else (r.2, 0, 0)
/-- What Parse leaves. -/
def PrPost (x : Cm × Nat × Int) (w : World) (e : Ending) (w' : World) : Prop := ∃ v, e = .returned (.tuple #[.agg (cmC x.1 v).toArray, .int .i64 x.2.1, .int .i64 x.2.2]) ∧ AutsAt w' v x.1.mods ∧ Gr w w'
set_option maxRecDepth 100000 in
set_option maxHeartbeats 2000000 in
theorem parseC (s : ByteArray) (w : World) (k : Fin 5) (w0 : Str) (ws : List Str) (r : PS × Cm) (hsp : splitL 32 (bl s) = w0 :: ws) (hk : bs w0 = keyK k) (hs : s.size ≤ 1000) (hE : Env w) (hb : 1 < w.heap.size) (hml : r.2.mods.length ≤ 1000000)
    (HR : ∀ (U : World) (b : Nat), Gr w U → w.heap.size ≤ b → PSAt U b s ⟨0, w0.length, ws, 0, 0⟩ → Calls Tryz.prog (fnK k) #[.pointer (some ⟨b, 0, none⟩)] U (RdPost b s r.1 U r.2)) :
    Calls Tryz.prog 19 #[.string s] w (PrPost (finP s.size r) w) := by
  have hcut : (Lib.cut (bl s) [32]).1 = w0 := by rw [head_cut, hsp]; rfl
  obtain ⟨mx, hm⟩ := hE
  have g0 := (Gr.refl w).alloc (.cells (cmC (cm0 0) nilV).toArray 37)
  have hm0 := (g0.cell (p := ⟨1, 0, none⟩) (World.block_lt_of_cell? w _ hm)).trans hm
  have HCU := Lib.hid (Tryz.strings_Cut s ⟨#[32]⟩ mx _ (by omega) hm0)
  have e1 : s.data.toList = bl s := rfl
  have e2 : (⟨#[32]⟩ : ByteArray).data.toList = [32] := rfl
  rw [e1, e2, hcut] at HCU
  have B0 := Lib.hid (heap_alloc_new w (.cells (cmC (cm0 0) nilV).toArray 37))
  have G0 := Lib.hid g0
  have HRR := Lib.hid HR
  have hd : decide (1000 < (s.size : Int)) = false := by simp; omega
  generalize (Lib.cut (bl s) [32]).2.1 = y at *
  generalize (Lib.cut (bl s) [32]).2.2 = z at *
  clear hcut hm hm0 g0 HR e1 e2 hsp
  go_enter Tryz.func19, Tryz.ntmps19
  go_wp2_with fail
  refine HCU.out.mono ?_
  rintro e w1 ⟨rfl, n1, rfl⟩
  have hw0 : (⟨w0.toArray⟩ : ByteArray) = bs w0 := rfl
  rw [hw0]
  go_wp2_with fail
  refine (formsR _).mono ?_
  rintro e W2 ⟨L, rm, hL, hall, rfl, hmap, hg2⟩
  have hl := run_get (P := Tryz.prog) Tryz.underlying82 Tryz.underlying9 hmap hL (keyK k) (.func (.func (fnK k)) #[] #[]) (List.mem_map_of_mem (f := pr) (hall k))
  have g2 := ((Gr.refl (w.alloc (.cells (cmC (cm0 0) nilV).toArray 37))).drewN n1).trans hg2
  have b2 := (g2.block (b := w.heap.size) (by simp)).trans B0.out
  have G2 := Lib.hid (G0.out.trans g2)
  have hz2 : w.heap.size < W2.heap.size := (Array.getElem?_eq_some_iff.1 b2).1
  have hsz : (keyK k).size = w0.length := by rw [← hk]; rfl
  have B2 := Lib.hid (((Gr.refl W2).alloc (.cells #[.string s, .int .i64 0, .int .i64 (w0.length : Int), .int .i64 0, .int .i64 0] 86)).block hz2 |>.trans b2)
  have P2 : Hid (PSAt (W2.alloc (.cells #[.string s, .int .i64 0, .int .i64 (w0.length : Int), .int .i64 0, .int .i64 0] 86)) W2.heap.size s ⟨0, w0.length, ws, 0, 0⟩) := heap_alloc_new W2 _
  have G3 := Lib.hid (G2.out.alloc (.cells #[.string s, .int .i64 0, .int .i64 (w0.length : Int), .int .i64 0, .int .i64 0] 86))
  have eg := egK k
  clear hmap hg2 g2 b2 B0 HCU
  go_wp2_with fail
  refine (HRR.out _ _ G3.out (by omega) P2.out).mono ?_
  rintro e w4 ⟨av, nv, capv, rfl, hv, hblk, h4, hg4⟩
  have b4 := grown_block hg4 B2.out (by simp; omega)
  have G4 : Gr w w4 := G3.out.grown hg4 (fun q hq => by cases hq; omega)
  have k4 := sets_whole (w := w4) (cs := cmC r.2 (.slice av nv capv)) b4 (by rw [cmC_length, cmC_length])
  have h5 := PSAt.other (w' := w4.setCells w.heap.size 0 (cmC r.2 (.slice av nv capv))) h4 (sets_other (b := w.heap.size) (i := W2.heap.size) (by omega) _ 0 w4)
  have G5 : Hid (Gr w (w4.setCells w.heap.size 0 (cmC r.2 (.slice av nv capv)))) := Gr.of_grownBy (grown_sets (Nat.le_refl _) _ 0 w4 (grown_gr G4))
  have HV5 : Hid (AutsAt (w4.setCells w.heap.size 0 (cmC r.2 (.slice av nv capv))) (.slice av nv capv) r.2.mods) := by
    refine SlAt.keep hv (fun x hx => sets_other (b := w.heap.size) (i := x.block) ?_ _ 0 w4) (by rw [sets_size]; exact Nat.le_refl _)
    have := hblk x hx; simp at this; omega
  have v0 := hasRow_block b4 0 56 (by rw [cmC_length]; decide)
  have y0 := freeRow_block b4 0 56
  have HBK : Hid (∀ x, av = some x → x.block ≠ w.heap.size) := fun x hx => by have := hblk x hx; simp at this; omega
  clear hg4 h4 b4 G4 HRR P2 B2 hl eg hL hall hv hblk
  by_cases hlt : r.1.fin < s.size
  · have hFS : finS s.size r.1 = r.1.fail r.1.fin 5 := by unfold finS; rw [if_pos hlt]
    have hne : (r.1.fail r.1.fin 5).e ≠ 0 := by unfold PS.fail; split; exact (by decide : (5 : Int) ≠ 0); rename_i q; exact fun e => q ⟨e, by decide⟩
    have HFIN : Hid (finP s.size r = (cm0 0, (r.1.fail r.1.fin 5).at_, (r.1.fail r.1.fin 5).e)) := by show _ = _; unfold finP; rw [hFS, if_pos hne]
    have hc : decide ((r.1.fin : Int) < (s.size : Int)) = true := by simp; omega
    have HF := Lib.hid (failC W2.heap.size s r.1 r.1.fin 5 _ h5)
    obtain ⟨c0, c1, c2, c3, c4, _, _⟩ := h5.facts
    have K4 := Lib.hid k4
    clear h5 k4
    generalize r.1.fail r.1.fin 5 = p6 at *
    go_wp2_with fail
    refine HF.out.mono ?_
    rintro e W6 ⟨rfl, h6, hg6⟩
    have k6 := grown_block hg6 K4.out (by simp; omega)
    have G6 : Hid (Gr w W6) := G5.out.grown hg6 (fun q hq => by cases hq; omega)
    obtain ⟨d0, d1, d2, d3, d4, _, _⟩ := h6.facts
    have he1 : (p6.e != 0) = true := by simp [hne]
    clear c0 c1 c2 c3 c4 hg6 G5 K4 HF hFS hne hlt
    have u0 := hasRow_block k6 0 56 (by rw [cmC_length]; decide)
    have f0 := freeRow_block k6 0 56
    have hS0 : (W6.drew.cell? ⟨W2.heap.size, 3, none⟩ = some (.int .i64 p6.at_) ∧ W6.drew.cell? ⟨W2.heap.size, 4, none⟩ = some (.int .i64 p6.e) ∧ hasRow W6.drew ⟨w.heap.size, 0, none⟩ 56 = true ∧ freeRow W6.drew ⟨w.heap.size, 0, none⟩ 56 = true) := ⟨d3, d4, u0, f0⟩
    have h7 := PSAt.other (w' := W6.drew.setCells w.heap.size 0 (cmC (cm0 0) nilV)) (h6.gr (Gr.refl W6).drew) (sets_other (b := w.heap.size) (i := W2.heap.size) (by omega) _ 0 W6.drew)
    have k7 := sets_whole (w := W6.drew) (cs := cmC (cm0 0) nilV) k6 (by rw [cmC_length, cmC_length])
    obtain ⟨_, _, _, x3, x4, _, _⟩ := h7.facts
    have hS1 : ((W6.drew.setCells w.heap.size 0 (cmC (cm0 0) nilV)).cell? ⟨W2.heap.size, 3, none⟩ = some (.int .i64 p6.at_) ∧ (W6.drew.setCells w.heap.size 0 (cmC (cm0 0) nilV)).cell? ⟨W2.heap.size, 4, none⟩ = some (.int .i64 p6.e) ∧ hasRow (W6.drew.setCells w.heap.size 0 (cmC (cm0 0) nilV)) ⟨w.heap.size, 0, none⟩ 56 = true ∧ freeRow (W6.drew.setCells w.heap.size 0 (cmC (cm0 0) nilV)) ⟨w.heap.size, 0, none⟩ 56 = true) := ⟨x3, x4, hasRow_block k7 0 56 (by rw [cmC_length]; decide), freeRow_block k7 0 56⟩
    have K7 := Lib.hid k7
    have hst : Sem.run Tryz.prog (storeCells ⟨w.heap.size, 0, none⟩ (cmC (cm0 0) nilV)) W6.drew = .ok () (W6.drew.setCells w.heap.size 0 (cmC (cm0 0) nilV)) := run_stCells (by rw [cmC_length]; exact u0) (by rw [cmC_length]; exact f0) (oneCmN _)
    have G7 : Hid (Gr w (W6.drew.setCells w.heap.size 0 (cmC (cm0 0) nilV))) := Gr.of_grownBy (grown_sets (Nat.le_refl _) _ 0 W6.drew (grown_gr (G6.out.drew)))
    clear x3 x4 h7 k7 k6 h6
    go_wp2_with fail
    go_region_held_law (fun u => u.cell? ⟨W2.heap.size, 3, none⟩ = some (.int .i64 p6.at_) ∧ u.cell? ⟨W2.heap.size, 4, none⟩ = some (.int .i64 p6.e) ∧ hasRow u ⟨w.heap.size, 0, none⟩ 56 = true ∧ freeRow u ⟨w.heap.size, 0, none⟩ 56 = true) (first | with_reducible exact hS0 | with_reducible exact hS1) (fail)
    go_wp2_with fail
    refine bodyPost_ret (results_cell_tmp2 (p := 2) (u1 := 3) (u2 := 4) rfl _ _ w.heap.size _ _ _ _ rfl K7.out Tryz.underlying37 rfl (by rw [List.size_toArray, cmC_length]; kernel_rfl)) rfl ?_
    rw [HFIN.out]
    exact ⟨nilV, rfl, nil_auts _, G7.out⟩
  · have hFS : finS s.size r.1 = r.1 := by unfold finS; rw [if_neg hlt]
    have hc : decide ((r.1.fin : Int) < (s.size : Int)) = false := by simp; omega
    have hc2 : decide (r.1.fin < s.size) = false := by simp; omega
    clear hlt
    by_cases he : r.1.e = 0
    · have HFIN : Hid (finP s.size r = (r.2, 0, 0)) := by show _ = _; unfold finP; rw [hFS, if_neg (by simp [he])]
      obtain ⟨d0, d1, d2, d3, d4, _, _⟩ := h5.facts
      rw [he] at d4
      have u0 := hasRow_block k4 0 56 (by rw [cmC_length]; decide)
      have q0 := (rowAt_block k4 0 56 (by rw [cmC_length]; decide)).trans (cm_whole r.2 (.slice av nv capv))
      have f0 := freeRow_block k4 0 56
      have k7 := Lib.hid (sets_whole (cs := cmC r.2 (.slice av nv capv)) k4 rfl)
      have G7 : Hid (Gr w ((w4.setCells w.heap.size 0 (cmC r.2 (.slice av nv capv))).setCells w.heap.size 0 (cmC r.2 (.slice av nv capv)))) := Gr.of_grownBy (grown_sets (Nat.le_refl _) _ 0 (w4.setCells w.heap.size 0 (cmC r.2 (.slice av nv capv))) (grown_gr G5.out))
      have HV7 : Hid (AutsAt ((w4.setCells w.heap.size 0 (cmC r.2 (.slice av nv capv))).setCells w.heap.size 0 (cmC r.2 (.slice av nv capv))) (.slice av nv capv) r.2.mods) := by
        refine SlAt.keep HV5.out (fun x hx => sets_other (b := w.heap.size) (i := x.block) ?_ _ 0 (w4.setCells w.heap.size 0 (cmC r.2 (.slice av nv capv)))) (Nat.le_of_eq (sets_size _ _ _ _).symm)
        exact HBK.out x hx
      clear h5 k4 he
      go_wp2_with fail
      refine bodyPost_ret (results_cell_tmp2 (p := 2) (u1 := 3) (u2 := 4) rfl _ _ w.heap.size _ _ _ _ rfl k7.out Tryz.underlying37 rfl (by rw [List.size_toArray, cmC_length]; kernel_rfl)) rfl ?_
      rw [HFIN.out]
      exact ⟨.slice av nv capv, rfl, HV7.out, G7.out⟩
    · have HFIN : Hid (finP s.size r = (cm0 0, r.1.at_, r.1.e)) := by show _ = _; unfold finP; rw [hFS, if_pos he]
      have he1 : (r.1.e != 0) = true := by simp [he]
      obtain ⟨c0, c1, c2, c3, c4, _, _⟩ := h5.facts
      clear HV5 HBK he
      generalize r.1 = p6 at *
      go_wp2_with fail
      have h6 := h5
      have k6 := k4
      have G6 := G5
      clear h5 k4 G5 c0 c1 c2 c3 c4
      generalize w4.setCells w.heap.size 0 (cmC r.2 (.slice av nv capv)) = W6 at *
      obtain ⟨d0, d1, d2, d3, d4, _, _⟩ := h6.facts
      have u0 := hasRow_block k6 0 56 (by rw [cmC_length]; decide)
      have f0 := freeRow_block k6 0 56
      have hS0 : (W6.drew.cell? ⟨W2.heap.size, 3, none⟩ = some (.int .i64 p6.at_) ∧ W6.drew.cell? ⟨W2.heap.size, 4, none⟩ = some (.int .i64 p6.e) ∧ hasRow W6.drew ⟨w.heap.size, 0, none⟩ 56 = true ∧ freeRow W6.drew ⟨w.heap.size, 0, none⟩ 56 = true) := ⟨d3, d4, u0, f0⟩
      have h7 := PSAt.other (w' := W6.drew.setCells w.heap.size 0 (cmC (cm0 0) nilV)) (h6.gr (Gr.refl W6).drew) (sets_other (b := w.heap.size) (i := W2.heap.size) (by omega) _ 0 W6.drew)
      have k7 := sets_whole (w := W6.drew) (cs := cmC (cm0 0) nilV) k6 (by rw [cmC_length, cmC_length])
      obtain ⟨_, _, _, x3, x4, _, _⟩ := h7.facts
      have hS1 : ((W6.drew.setCells w.heap.size 0 (cmC (cm0 0) nilV)).cell? ⟨W2.heap.size, 3, none⟩ = some (.int .i64 p6.at_) ∧ (W6.drew.setCells w.heap.size 0 (cmC (cm0 0) nilV)).cell? ⟨W2.heap.size, 4, none⟩ = some (.int .i64 p6.e) ∧ hasRow (W6.drew.setCells w.heap.size 0 (cmC (cm0 0) nilV)) ⟨w.heap.size, 0, none⟩ 56 = true ∧ freeRow (W6.drew.setCells w.heap.size 0 (cmC (cm0 0) nilV)) ⟨w.heap.size, 0, none⟩ 56 = true) := ⟨x3, x4, hasRow_block k7 0 56 (by rw [cmC_length]; decide), freeRow_block k7 0 56⟩
      have K7 := Lib.hid k7
      have hst : Sem.run Tryz.prog (storeCells ⟨w.heap.size, 0, none⟩ (cmC (cm0 0) nilV)) W6.drew = .ok () (W6.drew.setCells w.heap.size 0 (cmC (cm0 0) nilV)) := run_stCells (by rw [cmC_length]; exact u0) (by rw [cmC_length]; exact f0) (oneCmN _)
      have G7 : Hid (Gr w (W6.drew.setCells w.heap.size 0 (cmC (cm0 0) nilV))) := Gr.of_grownBy (grown_sets (Nat.le_refl _) _ 0 W6.drew (grown_gr (G6.out.drew)))
      clear x3 x4 h7 k7 k6 h6
      go_region_held_law (fun u => u.cell? ⟨W2.heap.size, 3, none⟩ = some (.int .i64 p6.at_) ∧ u.cell? ⟨W2.heap.size, 4, none⟩ = some (.int .i64 p6.e) ∧ hasRow u ⟨w.heap.size, 0, none⟩ 56 = true ∧ freeRow u ⟨w.heap.size, 0, none⟩ 56 = true) (first | with_reducible exact hS0 | with_reducible exact hS1) (fail)
      go_wp2_with fail
      refine bodyPost_ret (results_cell_tmp2 (p := 2) (u1 := 3) (u2 := 4) rfl _ _ w.heap.size _ _ _ _ rfl K7.out Tryz.underlying37 rfl (by rw [List.size_toArray, cmC_length]; kernel_rfl)) rfl ?_
      rw [HFIN.out]
      exact ⟨nilV, rfl, nil_auts _, G7.out⟩
end Go.Proofs.YtcdcmohccbhchaaGreatDoor

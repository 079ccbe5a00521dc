/- What reads the words of a removal. -/
import Derived.Test.YtcdcmohccbhchaaGreatDoorKPut
namespace Go.Proofs.YtcdcmohccbhchaaGreatDoor
open Go.RowKit

def read4 (n : Nat) (p : PS) : PS × Cm := (((p.groupP n).1.numP n 0 1000000).1, { cm0 4 with group := bs (p.groupP n).2, version := ((p.groupP n).1.numP n 0 1000000).2 })
/-- What a reader of a command leaves. -/
def RdPost (b : Nat) (s : ByteArray) (p : PS) (w : World) (c : Cm) (e : Ending) (w' : World) : Prop := ∃ a n k, e = .returned (.agg (cmC c (.slice a n k)).toArray) ∧ AutsAt w' (.slice a n k) c.mods ∧ (∀ x, a = some x → w.heap.size ≤ x.block) ∧ PSAt w' b s p ∧ w.grownBy w' (some b)
set_option maxRecDepth 100000 in
set_option maxHeartbeats 2000000 in
theorem form4C (b : Nat) (s : ByteArray) (p : PS) (w : World) (h : PSAt w b s p) (hok : PSok (bl s) p) (hs : s.size ≤ 1000000) (hE : Env w) (hb : 1 < b) :
    Calls Tryz.prog 87 #[.pointer (some ⟨b, 0, none⟩)] w (RdPost b s (read4 s.size p).1 w (read4 s.size p).2) := by
  have hz := h.facts.2.2.2.2.2.2
  have g0 := ((Gr.refl w).alloc (.cells (cmC (cm0 0) nilV).toArray 37)).alloc (.cells (cmC (cm0 4) nilV).toArray 37)
  have HG := Lib.hid (groupC b s p _ (h.gr g0) hok hs (hE.gr g0) hb)
  have B0 := Lib.hid (heap_alloc2_old w (.cells (cmC (cm0 0) nilV).toArray 37) (.cells (cmC (cm0 4) nilV).toArray 37))
  have B1 := Lib.hid (heap_alloc2_new w (.cells (cmC (cm0 0) nilV).toArray 37) (.cells (cmC (cm0 4) nilV).toArray 37))
  have G0 := Lib.hid (grown_gr (row := some b) g0)
  have HE := Lib.hid hE; have HOK := Lib.hid (hok.group s.size)
  have HR : Hid (read4 s.size p = (((p.groupP s.size).1.numP s.size 0 1000000).1, { cm0 4 with group := bs (p.groupP s.size).2, version := ((p.groupP s.size).1.numP s.size 0 1000000).2 })) := rfl
  clear h hok hE g0
  generalize p.groupP s.size = q at *
  obtain ⟨p1, g⟩ := q
  simp only at HG HR HOK
  go_enter Tryz.func87, Tryz.ntmps87
  go_wp2_with fail
  refine HG.out.mono ?_
  rintro e w1 ⟨rfl, h1, hg1⟩
  have b0 := grown_block hg1 B0.out (by simp; omega)
  have b1 := grown_block hg1 B1.out (by simp; omega)
  have f1 : ∀ k, w1.frozen? ⟨w.heap.size + 1, k, none⟩ = false := fun k => by simp [World.frozen?, b1]
  have f133 := f1 33
  obtain ⟨c0, c33, c34, c35, c36, c37, c38, c39, r1, q1, r39, q39, r40, q40, r0, q0, z1⟩ := cm_facts b1
  have H1 := Lib.hid h1; have HG1 := Lib.hid (grown_trans G0.out hg1); have BB0 := Lib.hid b0; have BB1 := Lib.hid b1
  clear h1 hg1 b0 b1 f1 B0 B1 G0
  go_wp2_with fail
  have k1 := put_group BB1.out (bs g)
  have k0 := (heap_setCell_other w1 ⟨w.heap.size + 1, 33, none⟩ w.heap.size (.string (bs g)) (by show w.heap.size ≠ w.heap.size + 1; omega)).trans BB0.out
  have h2 := H1.out.other (heap_setCell_other w1 ⟨w.heap.size + 1, 33, none⟩ b (.string (bs g)) (by show b ≠ w.heap.size + 1; omega))
  have hg2 := grown_new HG1.out (k := w.heap.size + 1) (o := 33) (by omega) (.string (bs g))
  generalize w1.setCell ⟨w.heap.size + 1, 33, none⟩ (.string (bs g)) = W2 at *
  have HN := Lib.hid (numberC b s p1 0 1000000 W2 h2 HOK.out hs (HE.out.grown hg2 hb) hb)
  have HG2 := Lib.hid hg2; have KK1 := Lib.hid k1; have KK0 := Lib.hid k0
  clear c0 c33 c34 c35 c36 c37 c38 c39 r1 q1 r39 q39 r40 q40 r0 q0 z1 f133 k1 k0 h2 hg2
  refine HN.out.mono ?_
  rintro e w3 ⟨rfl, h3, hg3⟩
  have b1 := grown_block hg3 KK1.out (by simp; omega)
  have b0 := grown_block hg3 KK0.out (by simp; omega)
  have f134 := free_block b1 34
  obtain ⟨c0, c33, c34, c35, c36, c37, c38, c39, r1, q1, r39, q39, r40, q40, r0, q0, z1⟩ := cm_facts b1
  have H3 := Lib.hid h3; have HG3 := Lib.hid (grown_trans HG2.out hg3); have BC0 := Lib.hid b0; have BC1 := Lib.hid b1
  generalize p1.numP s.size 0 1000000 = q at *
  obtain ⟨p2, nv⟩ := q
  have b14 := put_version b1 nv
  have b04 := (heap_setCell_other w3 ⟨w.heap.size + 1, 34, none⟩ w.heap.size (.int .i64 nv) (by show w.heap.size ≠ w.heap.size + 1; omega)).trans b0
  have h4 := Lib.hid (H3.out.other (heap_setCell_other w3 ⟨w.heap.size + 1, 34, none⟩ b (.int .i64 nv) (by show b ≠ w.heap.size + 1; omega)))
  have hg4 := Lib.hid (grown_new HG3.out (k := w.heap.size + 1) (o := 34) (by omega) (.int .i64 nv))
  obtain ⟨-, -, -, -, -, -, -, -, -, -, -, -, -, -, r0', q0', z1'⟩ := cm_facts b14
  have f0 := freeRow_block b04 0 56
  have u0 := hasRow_block b04 0 56 (by rw [cmC_length]; decide)
  have B04 := Lib.hid b04
  clear h3 hg3 b0 b1 b14 b04 c0 c33 c35 c36 c37 c38 c39 r1 q1 r39 q39 r40 q40 r0 q0
  go_wp2_with fail
  have hw := sets_whole (cs := cmC { cm0 4 with group := bs g, version := nv } nilV) B04.out (by rw [cmC_length, cmC_length])
  have h5 := h4.out.other (sets_other (b := w.heap.size) (i := b) (by omega) (cmC { cm0 4 with group := bs g, version := nv } nilV) 0 _)
  have hg5 := grown_sets (b := w.heap.size) (Nat.le_refl _) (cmC { cm0 4 with group := bs g, version := nv } nilV) 0 _ hg4.out
  refine bodyPost_ret (v := .agg (cmC { cm0 4 with group := bs g, version := nv } nilV).toArray) (results_cell_row rfl _ _ w.heap.size _ _ _ _ rfl hw Tryz.underlying37 rfl (by rw [List.size_toArray, cmC_length]; kernel_rfl)) rfl ?_
  rw [HR.out]
  exact ⟨none, 0, 0, rfl, nil_auts _, (fun x hx => by cases hx), h5, hg5⟩
end Go.Proofs.YtcdcmohccbhchaaGreatDoor

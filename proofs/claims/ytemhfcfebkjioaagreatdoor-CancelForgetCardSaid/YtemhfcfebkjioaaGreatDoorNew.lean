/- registry.New at one authority of the pattern of one star. -/
import Derived.Test.YtemhfcfebkjioaaGreatDoorMatch
namespace Go.Proofs.YtemhfcfebkjioaaGreatDoor
open Go.RowKit

def aut9 : Aut := ⟨#[9, 0, 0, 0, 0, 0, 0, 0, 0, 0, 0, 0, 0, 0, 0, 0], rfl⟩
/-- The cells of the one authority. -/
def authC : List Value := .string ⟨#[42]⟩ :: bC aut9
theorem authC_len : authC.length = 17 := by simp [authC, bC_length]
theorem auth_whole : rowOf authC 0 17 = authC := rowOf_all _ _ authC_len
theorem auth_author : rowOf authC 1 16 = bC aut9 := by show (bC aut9).take 16 = _; rw [List.take_of_length_le (by rw [bC_length]; decide)]
theorem auth_one : oneB authC = true := by simp [authC, oneB_cons, oneB_bC, Value.oneCell']
theorem infoAuth : (Tryz.prog.info? 87).map (fun i => (i.zero, i.size, i.bytes)) = some (some (.agg (.string ⟨#[]⟩ :: List.replicate 16 (.int .u8 0)).toArray), 17, 32) := by kernel_rfl
def CloneAuPost (w : World) (e : Ending) (w' : World) : Prop := ∃ g c rest, e = .returned (.slice (some ⟨g, 0, none⟩) 1 c) ∧ w.heap.size ≤ g ∧ w'.heap[g]? = some (.cells (authC ++ rest).toArray 87 (0, 0)) ∧ Gr w w'
theorem row_of_owns {w : World} {base : Nat} {e : TypeId} {size : Nat} {v : Value} {n : Nat} {row : List Value} (hn : 0 < n) (h : w.ownsRow base e size v n row) :
    ∃ g c rest, v = .slice (some ⟨g, 0, none⟩) n c ∧ base ≤ g ∧ w.heap[g]? = some (.cells (row ++ rest).toArray e (0, 0)) := by
  obtain ⟨_, h2⟩ := h
  rcases h2 with ⟨_, h0⟩ | ⟨g, cap, cur, rfl, hg, hh, hc, hm, hs, ht⟩
  · omega
  · exact ⟨g, cap, cur.toList.drop (n * size), rfl, hg, by rw [hh, ← ht, List.take_append_drop]⟩
set_option maxRecDepth 100000 in
set_option maxHeartbeats 2000000 in
theorem cloneAu (b : Nat) (w : World) (hb : w.heap[b]? = some (.cells authC.toArray 87 (0, 0))) :
    Calls Tryz.prog 61 #[.slice (some ⟨b, 0, none⟩) 1 1] w (CloneAuPost w) := by
  have hnil := Lib.run_eql_slice_nil (P := Tryz.prog) w 88 87 (some ⟨b, 0, none⟩) 1 1 0 0 Tryz.underlying88
  obtain ⟨i0, hi, hz0, hz1, hz2⟩ := info_parts infoAuth
  have HC : Hid (∀ j u, authC[j]? = some u → (w.alloc (.cells #[] 87)).cell? ((⟨b, 0, none⟩ : Addr).add j) = some u) := by
    intro j u hu
    rw [Addr.add_lit, Nat.zero_add, World.cell?_alloc_lt _ _ _ (Array.getElem?_eq_some_iff.1 hb).1, cell_block hb]
    exact hu
  have HO : Hid (∀ u ∈ authC, u.oneCell' = true) := fun u hu => List.all_eq_true.1 auth_one u hu
  have HW : Hid ((w.alloc (.cells #[] 87)).ownsRow w.heap.size 87 17 (.slice (some ⟨w.heap.size, 0, none⟩) 0 0) 0 []) :=
    ⟨rfl, .inr ⟨w.heap.size, 0, #[], rfl, Nat.le_refl _, heap_alloc_new w _, Nat.le_refl _, Nat.zero_le _, rfl, rfl⟩⟩
  clear hb
  go_enter Tryz.func61, Tryz.ntmps61
  go_wp2_with (at_builtin; refine wpList_append_own _ rfl _ _ 88 rfl w.heap.size 87 i0 _ 17 32 Tryz.underlying88 hi hz0 hz1 hz2 rfl (by decide) _ 0 [] rfl HW.out ⟨b, 0, none⟩ 1 1 authC rfl authC_len HC.out HO.out (by unfold maxLen; omega) (by omega) (by simp) ?_; intro v' w1 hown' hgrow _)
  go_ret
  rw [Nat.zero_add, List.nil_append] at hown'
  obtain ⟨g, c, rest, rfl, h1, h2⟩ := row_of_owns (by decide) hown'
  exact ⟨g, c, rest, rfl, h1, h2, ((Gr.refl w).alloc _).grown hgrow (fun k hk => Nat.le_of_eq (Option.some.inj hk))⟩

/-- What keeps every block of cells. -/
def KeepsC (w w' : World) : Prop := ∀ (j : Nat) (cs : Array Value) (t : TypeId) (fr : Nat × Nat), w.heap[j]? = some (.cells cs t fr) → w'.heap[j]? = w.heap[j]?
theorem Gr.keepsC {w w' : World} (h : Gr w w') : KeepsC w w' := fun _ _ _ _ hj => h.block (Array.getElem?_eq_some_iff.1 hj).1
theorem PatAt.keepC {w w' : World} {n b : Nat} (h : PatAt w n b) (hk : KeepsC w w') : PatAt w' n b := by
  obtain ⟨q, c, rest, n1, n2, h1, h2⟩ := h
  exact ⟨q, c, rest, n1, n2, (hk _ _ _ _ h1).trans h1, (hk _ _ _ _ h2).trans h2⟩
theorem ListAt.keepC {w w' : World} {n b : Nat} (h : ListAt w n b) (hk : KeepsC w w') : ListAt w' n b := by
  obtain ⟨q, c, p, rest, n1, n2, h1, h2, h3⟩ := h
  exact ⟨q, c, p, rest, n1, n2, (hk _ _ _ _ h1).trans h1, (hk _ _ _ _ h2).trans h2, h3.keepC hk⟩
/-- A registry of the one authority, but for its definitions. -/
def RegMem (w : World) (n br bm : Nat) : Prop := ∃ (g c q c2 lb : Nat) (rest : List Value) (rest2 : Array Value), n ≤ br ∧ w.heap[br]? = some (.cells #[.slice (some ⟨g, 0, none⟩) 1 c, .slice (some ⟨q, 0, none⟩) 1 c2, .map (some bm)] 128 (0, 0)) ∧ w.heap[g]? = some (.cells (authC ++ rest).toArray 87 (0, 0)) ∧
  w.heap[q]? = some (.cells (#[.pointer (some ⟨lb, 0, none⟩)] ++ rest2) 129 (0, 0)) ∧ ListAt w n lb
theorem RegMem.keepC {w w' : World} {n br bm : Nat} (h : RegMem w n br bm) (hk : KeepsC w w') : RegMem w' n br bm := by
  obtain ⟨g, c, q, c2, lb, rest, rest2, n1, h1, h2, h3, h4⟩ := h
  exact ⟨g, c, q, c2, lb, rest, rest2, n1, (hk _ _ _ _ h1).trans h1, (hk _ _ _ _ h2).trans h2, (hk _ _ _ _ h3).trans h3, h4.keepC hk⟩
def NewPost (w : World) (e : Ending) (w' : World) : Prop := ∃ br bm, e = .returned (.tuple #[.pointer (some ⟨br, 0, none⟩), .int .i64 0, .int .i64 0]) ∧ RegMem w' w.heap.size br bm ∧ w.heap.size ≤ bm ∧ w'.heap[bm]? = some (.map #[] 0) ∧ Gr w w'
theorem newDone (w w1 w3 : World) (g c lb : Nat) (rest : List Value) (A : Obj) (c2 : Nat) (rest2 : Array Value) (hgr : Gr w w1) (hg3 : Gr w1 w3) (hau : w1.heap[g]? = some (.cells (authC ++ rest).toArray 87 (0, 0)))
    (hm : w3.heap[w1.heap.size]? = some (.map #[] 0)) (hr : w3.heap[w1.heap.size + 1]? = some (.cells #[.slice (some ⟨g, 0, none⟩) 1 c, .slice none 0 0, .map (some w1.heap.size)] 128 (0, 0))) (n : Nat) (hn : w1.heap.size + 2 ≤ n) (hl : ListAt w3 n lb) (W : World) (hW : W = (((w3.alloc A).alloc (.cells (#[.pointer (some ⟨lb, 0, none⟩)] ++ rest2) 129)).setCell ⟨w1.heap.size + 1, 1, none⟩ (.slice (some ⟨w3.heap.size + 1, 0, none⟩) 1 c2)).drew) :
    RegMem W w.heap.size (w1.heap.size + 1) w1.heap.size ∧ w.heap.size ≤ w1.heap.size ∧ W.heap[w1.heap.size]? = some (.map #[] 0) ∧ Gr w W := by
  subst hW
  have hz := hgr.size
  have g4 := ((Gr.refl w3).alloc A).alloc (.cells (#[.pointer (some ⟨lb, 0, none⟩)] ++ rest2) 129)
  have hq := heap_alloc2_new w3 A (.cells (#[.pointer (some ⟨lb, 0, none⟩)] ++ rest2) 129)
  have hr4 := (g4.block (Array.getElem?_eq_some_iff.1 hr).1).trans hr
  have hm4 := (g4.block (Array.getElem?_eq_some_iff.1 hm).1).trans hm
  have hau4 := ((hg3.trans g4).block (Array.getElem?_eq_some_iff.1 hau).1).trans hau
  have hl4 := hl.gr g4
  have hgl := (Array.getElem?_eq_some_iff.1 hau).1
  have hrl := (Array.getElem?_eq_some_iff.1 hr).1
  have gg := hgr.trans (hg3.trans g4)
  generalize (w3.alloc A).alloc (.cells (#[.pointer (some ⟨lb, 0, none⟩)] ++ rest2) 129) = w4 at *
  have hs := heap_setCell_same w4 (w1.heap.size + 1) 1 _ _ (.slice (some ⟨w3.heap.size + 1, 0, none⟩) 1 c2) hr4
  have ho : ∀ j, j ≠ w1.heap.size + 1 → (w4.setCell ⟨w1.heap.size + 1, 1, none⟩ (.slice (some ⟨w3.heap.size + 1, 0, none⟩) 1 c2)).heap[j]? = w4.heap[j]? := fun j hj => heap_setCell_other w4 ⟨w1.heap.size + 1, 1, none⟩ j _ hj
  have h6 : ListAt (w4.setCell ⟨w1.heap.size + 1, 1, none⟩ (.slice (some ⟨w3.heap.size + 1, 0, none⟩) 1 c2)) n lb := hl4.keep fun j hj _ => ho j (by omega)
  refine ⟨⟨g, c, w3.heap.size + 1, c2, lb, rest, rest2, by omega, hs, (ho g (by omega)).trans hau4, (ho (w3.heap.size + 1) (by omega)).trans hq, ?_⟩, hz, (ho w1.heap.size (by omega)).trans hm4, (gg.setCell (p := ⟨w1.heap.size + 1, 1, none⟩) (by simp; omega) _).drew⟩
  obtain ⟨q', c', p', r', n1, n2, x1, x2, x3⟩ := h6
  exact ⟨q', c', p', r', by omega, by omega, x1, x2, x3.mono (by omega)⟩
set_option maxRecDepth 100000 in
set_option maxHeartbeats 2000000 in
theorem newC (b : Nat) (w : World) (hE : Env w) (hb : w.heap[b]? = some (.cells authC.toArray 87 (0, 0))) :
    Calls Tryz.prog 34 #[.slice (some ⟨b, 0, none⟩) 1 1] w (NewPost w) := by
  have HC := Lib.hid (cloneAu b w hb)
  have HB := Lib.hid hb
  have hmm := @run_makeMap Tryz.prog
  have HE := Lib.hid hE
  have hone := auth_one
  have hlen := authC_len
  have hbw : b < w.heap.size := (Array.getElem?_eq_some_iff.1 hb).1
  clear hb hE
  go_enter Tryz.func34, Tryz.ntmps34
  go_wp2_with fail
  refine HC.out.mono ?_
  rintro e w1 ⟨g, c, rest, rfl, hg, hau, hgr⟩
  have b1 := (hgr.block hbw).trans HB.out
  have q1 := hasRow_block b1 0 17 (by rw [authC_len]; decide)
  have q2 := (rowAt_block b1 0 17 (by rw [authC_len]; decide)).trans auth_whole
  have hbw1 : b < w1.heap.size := Nat.lt_of_lt_of_le hbw hgr.size
  have HAU := Lib.hid hau; have HGR := Lib.hid hgr
  clear b1 hau hgr
  go_wp2_with fail
  refine wp_loop_rounds 2 ?_
  rw [rounds_succ]
  go_wp2_with fail
  refine (parseListC _ (HE.out.gr (((HGR.out.alloc _).alloc _).alloc _))).mono ?_
  rintro e w3 ⟨rfl, hl, hg3⟩
  have m3 := (hg3.block (b := w1.heap.size) (by simp; omega)).trans (heap3a w1 _ _ _)
  have r3 := (hg3.block (b := w1.heap.size + 1) (by simp)).trans (((((Gr.refl _).alloc _).block (b := w1.heap.size + 1) (by simp)).trans (heap_alloc2_new w1 _ _)))
  have gg3 := ((((Gr.refl w1).alloc _).alloc _).alloc _).trans hg3
  have c1 : w3.cell? ⟨w1.heap.size + 1, 1, none⟩ = some (.slice none 0 0) := (cell_of_row w3 _ 1 _ _ _ r3).trans rfl
  have f1 : w3.frozen? ⟨w1.heap.size + 1, 1, none⟩ = false := frozen_of_row w3 _ _ _ _ r3
  rw [size3 w1] at hl
  have M3 := Lib.hid m3; have R3 := Lib.hid r3; have GG3 := Lib.hid gg3; have HL := Lib.hid hl
  have z3 : w1.heap.size + 1 < w3.heap.size := (Array.getElem?_eq_some_iff.1 r3).1
  have hcap : ¬ 281474976710656 < Builtin.nextslicecap 1 0 * Tryz.t129.bytes := by decide
  have fr2 : ∀ A B, ((w3.alloc A).alloc B).frozen? ⟨w1.heap.size + 1, 1, none⟩ = false := fun A B => ((((Gr.refl w3).alloc A).alloc B).frozen (p := ⟨w1.heap.size + 1, 1, none⟩) z3).trans f1
  have cl2 : ∀ A B, ((w3.alloc A).alloc B).cell? ⟨w1.heap.size + 1, 1, none⟩ = some (.slice none 0 0) := fun A B => ((((Gr.refl w3).alloc A).alloc B).cell (p := ⟨w1.heap.size + 1, 1, none⟩) z3).trans c1
  have fr3 : ∀ A B, ((w3.alloc A).alloc B).drew.frozen? ⟨w1.heap.size + 1, 1, none⟩ = false := fr2
  clear m3 r3 gg3 hl hg3 q1 q2
  go_wp2_with fail
  rw [rounds_succ]
  go_wp2_with fail
  go_ret3
  exact ⟨_, _, rfl, newDone w w1 w3 g c _ rest _ _ _ HGR.out GG3.out HAU.out M3.out R3.out _ (by omega) HL.out _ rfl⟩
end Go.Proofs.YtemhfcfebkjioaaGreatDoor

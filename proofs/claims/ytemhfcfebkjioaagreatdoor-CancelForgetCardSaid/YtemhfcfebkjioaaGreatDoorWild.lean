/- wildmat.Compile and ParseList at the pattern of one star. -/
import Derived.Test.YtemhfcfebkjioaaGreatDoorBy
namespace Go.Proofs.YtemhfcfebkjioaaGreatDoor
open Go.RowKit

def starV : Value := .iface 224 (.agg #[])
/-- The pattern of one star, compiled, in blocks from n on. -/
def PatAt (w : World) (n b : Nat) : Prop := ∃ (q c : Nat) (rest : Array Value), n ≤ b ∧ n ≤ q ∧ w.heap[b]? = some (.cells #[.string ⟨#[42]⟩, .slice (some ⟨q, 0, none⟩) 1 c] 221 (0, 0)) ∧ w.heap[q]? = some (.cells (#[starV] ++ rest) 265 (0, 0))
theorem PatAt.keep {w w' : World} {n b : Nat} (h : PatAt w n b) (hk : ∀ j, n ≤ j → j < w.heap.size → w'.heap[j]? = w.heap[j]?) : PatAt w' n b := by
  obtain ⟨q, c, rest, n1, n2, h1, h2⟩ := h
  exact ⟨q, c, rest, n1, n2, (hk _ n1 (Array.getElem?_eq_some_iff.1 h1).1).trans h1, (hk _ n2 (Array.getElem?_eq_some_iff.1 h2).1).trans h2⟩
theorem PatAt.gr {w w' : World} {n b : Nat} (h : PatAt w n b) (hg : Gr w w') : PatAt w' n b := h.keep fun _ _ hj => hg.block hj
theorem PatAt.mono {w : World} {n n' b : Nat} (h : PatAt w n b) (hn : n' ≤ n) : PatAt w n' b := by
  obtain ⟨q, c, rest, n1, n2, h1, h2⟩ := h
  exact ⟨q, c, rest, Nat.le_trans hn n1, Nat.le_trans hn n2, h1, h2⟩
theorem PatAt.set {w : World} {n b : Nat} (h : PatAt w n b) {b' : Nat} (k : Nat) (v : Value) (hb : b' < n) : PatAt (w.setCell ⟨b', k, none⟩ v) n b := h.keep fun j hj _ => heap_setCell_other w ⟨b', k, none⟩ j v (by show _ ≠ _; simp; omega)
theorem heap3 (w : World) (a b c : Obj) : ((w.alloc a).alloc b).alloc c |>.heap[w.heap.size + 1 + 1]? = some c := by
  have := heap_alloc_new ((w.alloc a).alloc b) c
  simpa using this
theorem size3 (w : World) (a b c : Obj) : (((w.alloc a).alloc b).alloc c).heap.size = w.heap.size + 1 + 1 + 1 := by simp
theorem heap3a (w : World) (a b c : Obj) : (((w.alloc a).alloc b).alloc c).heap[w.heap.size]? = some a :=
  (((Gr.refl ((w.alloc a).alloc b)).alloc c).block (b := w.heap.size) (by simp; omega)).trans (heap_alloc2_old w a b)
set_option maxRecDepth 100000 in
set_option maxHeartbeats 2000000 in
theorem compileC (w : World) : Calls Tryz.prog 105 #[.string ⟨#[42]⟩] w fun e w' => e = .returned (.tuple #[.pointer (some ⟨w.heap.size, 0, none⟩), .int .i64 0, .int .i64 0]) ∧ PatAt w' w.heap.size w.heap.size ∧ Gr w w' := by
  go_enter Tryz.func105, Tryz.ntmps105
  go_wp2_with fail
  refine wp_loop_rounds 2 ?_
  rw [rounds_succ]
  go_wp2_with fail
  rw [rounds_succ]
  go_wp2_with fail
  go_ret3
  exact ⟨rfl, ⟨w.heap.size + 1 + 1, _, _, Nat.le_refl _, by omega, heap3a w _ _ _, heap3 w _ _ _⟩, ((((Gr.refl w).alloc _).alloc _).alloc _).drew⟩

/-- The list of one star, in blocks from n on. -/
def ListAt (w : World) (n b : Nat) : Prop := ∃ (q c p : Nat) (rest : Array Value), n ≤ b ∧ n ≤ q ∧ w.heap[b]? = some (.cells #[.string ⟨#[42]⟩, .slice (some ⟨q, 0, none⟩) 1 c] 172 (0, 0)) ∧ w.heap[q]? = some (.cells (#[.pointer (some ⟨p, 0, none⟩), .int .i64 1] ++ rest) 176 (0, 0)) ∧ PatAt w n p
theorem ListAt.keep {w w' : World} {n b : Nat} (h : ListAt w n b) (hk : ∀ j, n ≤ j → j < w.heap.size → w'.heap[j]? = w.heap[j]?) : ListAt w' n b := by
  obtain ⟨q, c, p, rest, n1, n2, h1, h2, h3⟩ := h
  exact ⟨q, c, p, rest, n1, n2, (hk _ n1 (Array.getElem?_eq_some_iff.1 h1).1).trans h1, (hk _ n2 (Array.getElem?_eq_some_iff.1 h2).1).trans h2, h3.keep hk⟩
theorem ListAt.gr {w w' : World} {n b : Nat} (h : ListAt w n b) (hg : Gr w w') : ListAt w' n b := h.keep fun _ _ hj => hg.block hj
theorem splitStar (w : World) (hE : Env w) : Calls Tryz.prog 103 #[.string ⟨#[42]⟩, .string ⟨#[44]⟩] w fun e w' => e = .returned (.slice (some ⟨w.heap.size, 0, none⟩) 1 1) ∧ w' = w.alloc (.cells #[.string ⟨#[42]⟩] 9) := by
  obtain ⟨m, hm⟩ := hE
  exact Tryz.strings_Split ⟨#[42]⟩ ⟨#[44]⟩ m w (by decide) hm (by decide)
theorem preStar (p : UInt8) (h : p ≠ 42) (w : World) : Calls Tryz.prog 104 #[.string ⟨#[42]⟩, .string ⟨#[p]⟩] w fun e w' => e = .returned (.bool false) ∧ w' = w := by
  have := Tryz.strings_HasPrefix ⟨#[42]⟩ ⟨#[p]⟩ w
  have e : Lib.hasPrefix [42] [p] = false := by simp [Lib.hasPrefix, List.isPrefixOf, h]
  change Calls _ _ _ _ (fun e w' => e = .returned (.bool (Lib.hasPrefix [42] [p])) ∧ w' = w) at this
  rw [e] at this
  exact this
theorem listDone (w w2 : World) (c p : Nat) (A : Obj) (rest : Array Value) (h2 : w2.heap[w.heap.size]? = some (.cells #[.string ⟨#[42]⟩, .slice none 0 0] 172 (0, 0))) (hg : Gr w w2) (hp : PatAt w2 (w.heap.size + 1) p) :
    ListAt (((w2.setCell ⟨w.heap.size, 1, none⟩ (.slice (some ⟨w2.heap.size + 1, 0, none⟩) 1 c)).alloc A).alloc (.cells (#[.pointer (some ⟨p, 0, none⟩), .int .i64 1] ++ rest) 176)).drew.drew w.heap.size w.heap.size ∧
    Gr w (((w2.setCell ⟨w.heap.size, 1, none⟩ (.slice (some ⟨w2.heap.size + 1, 0, none⟩) 1 c)).alloc A).alloc (.cells (#[.pointer (some ⟨p, 0, none⟩), .int .i64 1] ++ rest) 176)).drew.drew := by
  have hs := heap_setCell_same w2 w.heap.size 1 _ _ (.slice (some ⟨w2.heap.size + 1, 0, none⟩) 1 c) h2
  have g3 := hg.setCell (p := ⟨w.heap.size, 1, none⟩) (Nat.le_refl _) (.slice (some ⟨w2.heap.size + 1, 0, none⟩) 1 c)
  have hp3 := (hp.set (b' := w.heap.size) 1 (.slice (some ⟨w2.heap.size + 1, 0, none⟩) 1 c) (by omega)).mono (Nat.le_succ _)
  have z3 : (w2.setCell ⟨w.heap.size, 1, none⟩ (.slice (some ⟨w2.heap.size + 1, 0, none⟩) 1 c)).heap.size = w2.heap.size := by simp
  generalize w2.setCell ⟨w.heap.size, 1, none⟩ (.slice (some ⟨w2.heap.size + 1, 0, none⟩) 1 c) = w3 at *
  have g4 := ((Gr.refl w3).alloc A).alloc (.cells (#[.pointer (some ⟨p, 0, none⟩), .int .i64 1] ++ rest) 176)
  have hz := hg.size
  refine ⟨⟨w2.heap.size + 1, c, p, rest, Nat.le_refl _, by omega, (g4.block (Array.getElem?_eq_some_iff.1 hs).1).trans hs, ?_, hp3.gr g4.drew.drew⟩, (g3.trans g4).drew.drew⟩
  rw [← z3]; exact heap_alloc2_new w3 A _
set_option maxRecDepth 100000 in
set_option maxHeartbeats 4000000 in
theorem parseListC (w : World) (hE : Env w) : Calls Tryz.prog 62 #[.string ⟨#[42]⟩] w fun e w' => e = .returned (.tuple #[.pointer (some ⟨w.heap.size, 0, none⟩), .int .i64 0, .int .i64 0]) ∧ ListAt w' w.heap.size w.heap.size ∧ Gr w w' := by
  have hE1 := hE.gr ((Gr.refl w).alloc (.cells #[.string ⟨#[42]⟩, .slice none 0 0] 172))
  have HC := Lib.hid (splitStar _ hE1)
  clear hE hE1
  go_enter Tryz.func62, Tryz.ntmps62
  go_wp2_with fail
  refine HC.out.mono ?_
  rintro e w' ⟨rfl, rfl⟩
  go_wp2_with fail
  refine wp_loop_rounds 2 ?_
  rw [rounds_succ]
  go_wp2_with (go_at_call 104; refine (preStar _ (by decide) _).mono ?_; rintro e w' ⟨rfl, rfl⟩)
  refine (compileC _).mono ?_
  rintro e w1 ⟨rfl, hpat, hg⟩
  have b1 := (hg.block (b := w.heap.size) (by simp; omega)).trans (heap3a w _ _ _)
  have b3 := (hg.block (b := w.heap.size + 1 + 1) (by simp)).trans (heap3 w _ _ _)
  have hg1 := (((Gr.refl w).alloc _).alloc _).alloc _ |>.trans hg
  have hs1 : w.heap.size + 1 + 1 < w1.heap.size := (Array.getElem?_eq_some_iff.1 b3).1
  have HP := Lib.hid hpat; have HG := Lib.hid hg1
  have f3 : w1.frozen? ⟨w.heap.size + 1 + 1, 0, none⟩ = false := frozen_of_row w1 _ _ _ _ b3
  have c1 := cell_of_row w1 _ 1 _ _ _ b1
  have c3 := cell_of_row w1 _ 0 _ _ _ b3
  simp at c1 c3
  have s1 := heap_setCell_same w1 (w.heap.size + 1 + 1) 0 _ _ (.pointer (some ⟨w.heap.size + 1 + 1 + 1, 0, none⟩)) b3
  have s2 := (heap_setCell_other w1 ⟨w.heap.size + 1 + 1, 0, none⟩ w.heap.size (.pointer (some ⟨w.heap.size + 1 + 1 + 1, 0, none⟩)) (by simp; omega)).trans b1
  have sg := HG.out.setCell (p := ⟨w.heap.size + 1 + 1, 0, none⟩) (by simp; omega) (.pointer (some ⟨w.heap.size + 1 + 1 + 1, 0, none⟩))
  have sp := HP.out.set (b' := w.heap.size + 1 + 1) 0 (.pointer (some ⟨w.heap.size + 1 + 1 + 1, 0, none⟩)) (by simp)
  have sp2 := sp.mono (n' := w.heap.size + 1) (by simp)
  rw [size3 w] at sp2
  have SS1 := Lib.hid s1; have SS2 := Lib.hid s2; have SG := Lib.hid sg; have SP := Lib.hid sp2
  clear hpat hg1 hg b1 b3 s1 s2 sg sp sp2 HP HG
  go_wp2_with fail
  generalize (w1.setCell ⟨w.heap.size + 1 + 1, 0, none⟩ (.pointer (some ⟨w.heap.size + 1 + 1 + 1, 0, none⟩))) = w2 at *
  have c1 := cell_of_row w2 _ 1 _ _ _ SS2.out
  have c3 := cell_of_row w2 _ 0 _ _ _ SS1.out
  have c4 := cell_of_row w2 _ 1 _ _ _ SS1.out
  have f1 : w2.frozen? ⟨w.heap.size, 1, none⟩ = false := frozen_of_row w2 _ _ _ _ SS2.out
  simp at c1 c3 c4
  have z1 := (Array.getElem?_eq_some_iff.1 SS1.out).1
  have z2 := (Array.getElem?_eq_some_iff.1 SS2.out).1
  have hcap : ¬ 281474976710656 < Builtin.nextslicecap 1 0 * Tryz.t176.bytes := by decide
  go_big_region
  go_wp2_with fail
  rw [rounds_succ]
  go_wp2_with fail
  go_ret3
  exact ⟨rfl, listDone w w2 _ _ _ _ SS2.out SG.out SP.out⟩
end Go.Proofs.YtemhfcfebkjioaaGreatDoor

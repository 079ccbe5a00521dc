/- wildmat.Compile and ParseList at the pattern of one star. The pattern of one star: what Match and Verdict answer. registry.New at one authority of the pattern of one star. IsAuthority at the registry of one authority. Registry.Add: what it does to the definitions. The statement's Made: the registry of the first twelve definitions. The statement's few. Aggregates built out of parts that are rows. What the example's parts come to, in plain words. The statement's example holds. -/
import Derived.Test.YtcjacgjeiljfgaaGreatDoorCA
import Derived.Deep.RegionHeld3
namespace Go.Proofs.YtcjacgjeiljfgaaGreatDoor
open Go.RowKit

def starV : Value := .iface 191 (.agg #[])
/-- The pattern of one star, compiled, in blocks from n on. -/
def PatAt (w : World) (n b : Nat) : Prop := ∃ (q c : Nat) (rest : Array Value), n ≤ b ∧ n ≤ q ∧ w.heap[b]? = some (.cells #[.string ⟨#[42]⟩, .slice (some ⟨q, 0, none⟩) 1 c] 188 (0, 0)) ∧ w.heap[q]? = some (.cells (#[starV] ++ rest) 218 (0, 0))
theorem PatAt.keep {w w' : World} {n b : Nat} (h : PatAt w n b) (hk : ∀ j, n ≤ j → j < w.heap.size → w'.heap[j]? = w.heap[j]?) : PatAt w' n b := by
  obtain ⟨q, c, rest, n1, n2, h1, h2⟩ := h
  exact ⟨q, c, rest, n1, n2, (hk _ n1 (Array.getElem?_eq_some_iff.1 h1).1).trans h1, (hk _ n2 (Array.getElem?_eq_some_iff.1 h2).1).trans h2⟩
theorem PatAt.gr {w w' : World} {n b : Nat} (h : PatAt w n b) (hg : Gr w w') : PatAt w' n b := h.keep fun _ _ hj => hg.block hj
theorem PatAt.mono {w : World} {n n' b : Nat} (h : PatAt w n b) (hn : n' ≤ n) : PatAt w n' b := by
  obtain ⟨q, c, rest, n1, n2, h1, h2⟩ := h
  exact ⟨q, c, rest, Nat.le_trans hn n1, Nat.le_trans hn n2, h1, h2⟩
theorem PatAt.set {w : World} {n b : Nat} (h : PatAt w n b) {b' : Nat} (k : Nat) (v : Value) (hb : b' < n) : PatAt (w.setCell ⟨b', k, none⟩ v) n b := h.keep fun j hj _ => heap_setCell_other w ⟨b', k, none⟩ j v (by show _ ≠ _; simp; omega)
theorem heap3L (w : World) (a b c : Obj) : ((w.alloc a).alloc b).alloc c |>.heap[w.heap.size + 1 + 1]? = some c := by
  have := heap_alloc_new ((w.alloc a).alloc b) c
  simpa using this
theorem size3 (w : World) (a b c : Obj) : (((w.alloc a).alloc b).alloc c).heap.size = w.heap.size + 1 + 1 + 1 := by simp
theorem heap3a (w : World) (a b c : Obj) : (((w.alloc a).alloc b).alloc c).heap[w.heap.size]? = some a :=
  (((Gr.refl ((w.alloc a).alloc b)).alloc c).block (b := w.heap.size) (by simp; omega)).trans (heap_alloc2_old w a b)
set_option maxRecDepth 100000 in
set_option maxHeartbeats 2000000 in
theorem compileC (w : World) : Calls Tryz.prog 88 #[.string ⟨#[42]⟩] w fun e w' => e = .returned (.tuple #[.pointer (some ⟨w.heap.size, 0, none⟩), .int .i64 0, .int .i64 0]) ∧ PatAt w' w.heap.size w.heap.size ∧ Gr w w' := by
  go_enter Tryz.func88, Tryz.ntmps88
  go_wp2_with fail
  refine wp_loop_rounds 2 ?_
  rw [rounds_succ]
  go_wp2_with fail
  rw [rounds_succ]
  go_wp2_with fail
  go_ret3
  exact ⟨rfl, ⟨w.heap.size + 1 + 1, _, _, Nat.le_refl _, by omega, heap3a w _ _ _, heap3L w _ _ _⟩, ((((Gr.refl w).alloc _).alloc _).alloc _).drew⟩

/-- The list of one star, in blocks from n on. -/
def ListAt (w : World) (n b : Nat) : Prop := ∃ (q c p : Nat) (rest : Array Value), n ≤ b ∧ n ≤ q ∧ w.heap[b]? = some (.cells #[.string ⟨#[42]⟩, .slice (some ⟨q, 0, none⟩) 1 c] 150 (0, 0)) ∧ w.heap[q]? = some (.cells (#[.pointer (some ⟨p, 0, none⟩), .int .i64 1] ++ rest) 153 (0, 0)) ∧ PatAt w n p
theorem ListAt.keep {w w' : World} {n b : Nat} (h : ListAt w n b) (hk : ∀ j, n ≤ j → j < w.heap.size → w'.heap[j]? = w.heap[j]?) : ListAt w' n b := by
  obtain ⟨q, c, p, rest, n1, n2, h1, h2, h3⟩ := h
  exact ⟨q, c, p, rest, n1, n2, (hk _ n1 (Array.getElem?_eq_some_iff.1 h1).1).trans h1, (hk _ n2 (Array.getElem?_eq_some_iff.1 h2).1).trans h2, h3.keep hk⟩
theorem ListAt.gr {w w' : World} {n b : Nat} (h : ListAt w n b) (hg : Gr w w') : ListAt w' n b := h.keep fun _ _ hj => hg.block hj
theorem splitStar (w : World) (hE : Env w) : Calls Tryz.prog 85 #[.string ⟨#[42]⟩, .string ⟨#[44]⟩] w fun e w' => e = .returned (.slice (some ⟨w.heap.size, 0, none⟩) 1 1) ∧ w' = w.alloc (.cells #[.string ⟨#[42]⟩] 9) := by
  obtain ⟨m, hm⟩ := hE
  exact Tryz.strings_Split ⟨#[42]⟩ ⟨#[44]⟩ m w (by decide) hm (by decide)
theorem preStar (p : UInt8) (h : p ≠ 42) (w : World) : Calls Tryz.prog 74 #[.string ⟨#[42]⟩, .string ⟨#[p]⟩] w fun e w' => e = .returned (.bool false) ∧ w' = w := by
  have := Tryz.strings_HasPrefix ⟨#[42]⟩ ⟨#[p]⟩ w
  have e : Lib.hasPrefix [42] [p] = false := by simp [Lib.hasPrefix, List.isPrefixOf, h]
  change Calls _ _ _ _ (fun e w' => e = .returned (.bool (Lib.hasPrefix [42] [p])) ∧ w' = w) at this
  rw [e] at this
  exact this
theorem listDone (w w2 : World) (c p : Nat) (A : Obj) (rest : Array Value) (h2 : w2.heap[w.heap.size]? = some (.cells #[.string ⟨#[42]⟩, .slice none 0 0] 150 (0, 0))) (hg : Gr w w2) (hp : PatAt w2 (w.heap.size + 1) p) :
    ListAt (((w2.setCell ⟨w.heap.size, 1, none⟩ (.slice (some ⟨w2.heap.size + 1, 0, none⟩) 1 c)).alloc A).alloc (.cells (#[.pointer (some ⟨p, 0, none⟩), .int .i64 1] ++ rest) 153)).drew.drew w.heap.size w.heap.size ∧
    Gr w (((w2.setCell ⟨w.heap.size, 1, none⟩ (.slice (some ⟨w2.heap.size + 1, 0, none⟩) 1 c)).alloc A).alloc (.cells (#[.pointer (some ⟨p, 0, none⟩), .int .i64 1] ++ rest) 153)).drew.drew := by
  have hs := heap_setCell_same w2 w.heap.size 1 _ _ (.slice (some ⟨w2.heap.size + 1, 0, none⟩) 1 c) h2
  have g3 := hg.setCell (p := ⟨w.heap.size, 1, none⟩) (Nat.le_refl _) (.slice (some ⟨w2.heap.size + 1, 0, none⟩) 1 c)
  have hp3 := (hp.set (b' := w.heap.size) 1 (.slice (some ⟨w2.heap.size + 1, 0, none⟩) 1 c) (by omega)).mono (Nat.le_succ _)
  have z3 : (w2.setCell ⟨w.heap.size, 1, none⟩ (.slice (some ⟨w2.heap.size + 1, 0, none⟩) 1 c)).heap.size = w2.heap.size := by simp
  generalize w2.setCell ⟨w.heap.size, 1, none⟩ (.slice (some ⟨w2.heap.size + 1, 0, none⟩) 1 c) = w3 at *
  have g4 := ((Gr.refl w3).alloc A).alloc (.cells (#[.pointer (some ⟨p, 0, none⟩), .int .i64 1] ++ rest) 153)
  have hz := hg.size
  refine ⟨⟨w2.heap.size + 1, c, p, rest, Nat.le_refl _, by omega, (g4.block (Array.getElem?_eq_some_iff.1 hs).1).trans hs, ?_, hp3.gr g4.drew.drew⟩, (g3.trans g4).drew.drew⟩
  rw [← z3]; exact heap_alloc2_new w3 A _
set_option maxRecDepth 100000 in
set_option maxHeartbeats 4000000 in
theorem parseListC (w : World) (hE : Env w) : Calls Tryz.prog 58 #[.string ⟨#[42]⟩] w fun e w' => e = .returned (.tuple #[.pointer (some ⟨w.heap.size, 0, none⟩), .int .i64 0, .int .i64 0]) ∧ ListAt w' w.heap.size w.heap.size ∧ Gr w w' := by
  have hE1 := hE.gr ((Gr.refl w).alloc (.cells #[.string ⟨#[42]⟩, .slice none 0 0] 150))
  have HC := Lib.hid (splitStar _ hE1)
  clear hE hE1
  go_enter Tryz.func58, Tryz.ntmps58
  go_wp2_with fail
  refine HC.out.mono ?_
  rintro e w' ⟨rfl, rfl⟩
  go_wp2_with fail
  refine wp_loop_rounds 2 ?_
  rw [rounds_succ]
  go_wp2_with (go_at_call 74; refine (preStar _ (by decide) _).mono ?_; rintro e w' ⟨rfl, rfl⟩)
  refine (compileC _).mono ?_
  rintro e w1 ⟨rfl, hpat, hg⟩
  have b1 := (hg.block (b := w.heap.size) (by simp; omega)).trans (heap3a w _ _ _)
  have b3 := (hg.block (b := w.heap.size + 1 + 1) (by simp)).trans (heap3L w _ _ _)
  have hg1 := (((Gr.refl w).alloc _).alloc _).alloc _ |>.trans hg
  have hs1 : w.heap.size + 1 + 1 < w1.heap.size := (Array.getElem?_eq_some_iff.1 b3).1
  have HP := Lib.hid hpat; have HG := Lib.hid hg1
  have f3 : w1.frozen? ⟨w.heap.size + 1 + 1, 0, none⟩ = false := frozen_of_row w1 _ _ _ _ b3
  have c1 := cell_of_row w1 _ 1 _ _ _ b1
  have c3 := cell_of_row w1 _ 0 _ _ _ b3
  simp at c1 c3
  have s1 := heap_setCell_same w1 (w.heap.size + 1 + 1) 0 _ _ (.pointer (some ⟨w.heap.size + 1 + 1 + 1, 0, none⟩)) b3
  have s2 := (heap_setCell_other w1 ⟨w.heap.size + 1 + 1, 0, none⟩ w.heap.size (.pointer (some ⟨w.heap.size + 1 + 1 + 1, 0, none⟩)) (by simp; omega)).trans b1
  have sg := HG.out.setCell (p := ⟨w.heap.size + 1 + 1, 0, none⟩) (by simp; omega) (.pointer (some ⟨w.heap.size + 1 + 1 + 1, 0, none⟩))
  have sp := HP.out.set (b' := w.heap.size + 1 + 1) 0 (.pointer (some ⟨w.heap.size + 1 + 1 + 1, 0, none⟩)) (by simp)
  have sp2 := sp.mono (n' := w.heap.size + 1) (by simp)
  rw [size3 w] at sp2
  have SS1 := Lib.hid s1; have SS2 := Lib.hid s2; have SG := Lib.hid sg; have SP := Lib.hid sp2
  clear hpat hg1 hg b1 b3 s1 s2 sg sp sp2 HP HG
  go_wp2_with fail
  generalize (w1.setCell ⟨w.heap.size + 1 + 1, 0, none⟩ (.pointer (some ⟨w.heap.size + 1 + 1 + 1, 0, none⟩))) = w2 at *
  have c1 := cell_of_row w2 _ 1 _ _ _ SS2.out
  have c3 := cell_of_row w2 _ 0 _ _ _ SS1.out
  have c4 := cell_of_row w2 _ 1 _ _ _ SS1.out
  have f1 : w2.frozen? ⟨w.heap.size, 1, none⟩ = false := frozen_of_row w2 _ _ _ _ SS2.out
  simp at c1 c3 c4
  have z1 := (Array.getElem?_eq_some_iff.1 SS1.out).1
  have z2 := (Array.getElem?_eq_some_iff.1 SS2.out).1
  have hcap : ¬ 281474976710656 < Builtin.nextslicecap 1 0 * Tryz.t153.bytes := by decide
  go_big_region
  go_wp2_with fail
  rw [rounds_succ]
  go_wp2_with fail
  go_ret3
  exact ⟨rfl, listDone w w2 _ _ _ _ SS2.out SG.out SP.out⟩
end Go.Proofs.YtcjacgjeiljfgaaGreatDoor

namespace Go.Proofs.YtcjacgjeiljfgaaGreatDoor
open Go.RowKit

def nameChars : ByteArray := ⟨#[43, 45, 46, 48, 49, 50, 51, 52, 53, 54, 55, 56, 57, 95, 97, 98, 99, 100, 101, 102, 103, 104, 105, 106, 107, 108, 109, 110, 111, 112, 113, 114, 115, 116, 117, 118, 119, 120, 121, 122]⟩
def standB (c : UInt8) : Bool := decide (0 ≤ Lib.indexByte nameChars.data.toList c)

set_option maxRecDepth 100000 in
set_option maxHeartbeats 1000000 in
theorem charsC (w : World) : Calls Tryz.prog 204 #[.agg #[]] w fun e w' => e = .returned (.string nameChars) ∧ w' = w.alloc (.cells #[] 191) := by
  go_enter Tryz.func204, Tryz.ntmps204
  go_wp2_with fail
  go_ret
  exact ⟨rfl, rfl⟩
set_option maxRecDepth 100000 in
set_option maxHeartbeats 1000000 in
theorem isStarC (w : World) : Calls Tryz.prog 154 #[starV] w fun e w' => e = .returned (.bool true) ∧ Gr w w' := by
  unfold starV
  have ht : ∀ w, (Instr.typeAssert (.iface 191 (.agg #[])) 218 191 true).run Tryz.prog w = .ok (.tuple #[.agg #[], .bool true]) w := fun w => by kernel_rfl
  go_enter Tryz.func154, Tryz.ntmps154
  go_wp2_with fail
  go_ret
  exact ⟨rfl, (Gr.refl w).alloc _⟩
set_option maxRecDepth 100000 in
set_option maxHeartbeats 1000000 in
theorem standsC (c : UInt8) (w : World) : Calls Tryz.prog 153 #[starV, .int .u8 (c.toNat : Int)] w fun e w' => e = .returned (.bool (standB c)) ∧ Gr w w' := by
  unfold starV
  have hm : ∀ w, (method 419 191 (.agg #[]) "bulletin/wildmat.chars").run Tryz.prog w = .ok (204, .agg #[]) w := fun w => by kernel_rfl
  go_enter Tryz.func153, Tryz.ntmps153
  go_wp2_with fail
  refine (charsC _).mono ?_
  rintro e w' ⟨rfl, rfl⟩
  go_wp2_with fail
  refine (Tryz.strings_IndexByte _ _ _).mono ?_
  rintro e w' ⟨rfl, rfl⟩
  go_wp2_with fail
  go_ret
  refine ⟨?_, (Gr.refl w).alloc _⟩
  simp [standB]

/-- Two marks in a block. -/
def Two (w : World) (b : Nat) (x y : Bool) : Prop := w.heap[b]? = some (.cells #[.bool x, .bool y] 4 (0, 0))
theorem Two.lt {w : World} {b : Nat} {x y : Bool} (h : Two w b x y) : b < w.heap.size := (Array.getElem?_eq_some_iff.1 h).1
theorem Two.c0 {w : World} {b : Nat} {x y : Bool} (h : Two w b x y) : w.cell? ⟨b, 0, none⟩ = some (.bool x) := (cell_of_row w b 0 _ _ _ h).trans rfl
theorem Two.c1 {w : World} {b : Nat} {x y : Bool} (h : Two w b x y) : w.cell? ⟨b, 1, none⟩ = some (.bool y) := (cell_of_row w b 1 _ _ _ h).trans rfl
theorem Two.fr {w : World} {b : Nat} {x y : Bool} (h : Two w b x y) (k : Nat) : w.frozen? ⟨b, k, none⟩ = false := frozen_of_row w _ _ _ _ h
theorem Two.set0 {w : World} {b : Nat} {x y : Bool} (h : Two w b x y) (z : Bool) : Two (w.setCell ⟨b, 0, none⟩ (.bool z)) b z y := heap_setCell_same w b 0 _ _ (.bool z) h
theorem Two.set1 {w : World} {b : Nat} {x y : Bool} (h : Two w b x y) (z : Bool) : Two (w.setCell ⟨b, 1, none⟩ (.bool z)) b x z := heap_setCell_same w b 1 _ _ (.bool z) h
theorem Two.gr {w w' : World} {b : Nat} {x y : Bool} (h : Two w b x y) (hg : Gr w w') : Two w' b x y := (hg.block h.lt).trans h
theorem grown_setL {w w1 : World} (hg : Gr w w1) (b k : Nat) (v : Value) : w.grownBy (w1.setCell ⟨b, k, none⟩ v) (some b) :=
  ⟨hg.os, hg.tape, hg.output, by have := hg.size; simpa using this, fun j hj hne => (heap_setCell_other w1 ⟨b, k, none⟩ j v (fun e => hne (by rw [e]))).trans (hg.block hj)⟩
def SpreadPost (ba : Nat) (x : Bool) (w : World) (e : Ending) (w' : World) : Prop := e = .returned (.tuple #[]) ∧ Two w' ba x x ∧ w.grownBy w' (some ba)
set_option maxRecDepth 100000 in
set_option maxHeartbeats 2000000 in
theorem spreadC (n b ba : Nat) (x : Bool) (w : World) (hp : PatAt w n b) (h2 : Two w ba x false) :
    Calls Tryz.prog 152 #[.pointer (some ⟨b, 0, none⟩), .slice (some ⟨ba, 0, none⟩) 2 2] w (SpreadPost ba x w) := by
  obtain ⟨q, c, rest, n1, n2, p1, p2⟩ := hp
  have d1 : w.cell? ⟨b, 1, none⟩ = some (.slice (some ⟨q, 0, none⟩) 1 c) := (cell_of_row w b 1 _ _ _ p1).trans rfl
  have d2 : w.cell? ⟨q, 0, none⟩ = some starV := by rw [cell_of_row w q 0 _ _ _ p2, Array.getElem?_append]; rfl
  have e0 := h2.c0
  have HT := Lib.hid h2
  clear p1 p2 n1 n2 h2
  cases x with
  | false =>
    go_enter Tryz.func152, Tryz.ntmps152
    go_wp2_with fail
    refine wp_loop_rounds 2 ?_
    rw [rounds_succ]
    go_wp2_with fail
    rw [rounds_succ]
    go_wp2_with fail
    go_end0
    exact ⟨rfl, HT.out, World.grownBy.refl _ _⟩
  | true =>
    go_enter Tryz.func152, Tryz.ntmps152
    go_wp2_with fail
    refine wp_loop_rounds 2 ?_
    rw [rounds_succ]
    go_wp2_with fail
    refine (isStarC _).mono ?_
    rintro e w1 ⟨rfl, hg⟩
    have h1 := HT.out.gr hg
    have f1 := h1.c1
    have f2 := h1.fr 1
    have H1 := Lib.hid h1; have HG := Lib.hid hg
    clear h1 hg
    go_wp2_with fail
    rw [rounds_succ]
    go_wp2_with fail
    go_end0
    exact ⟨rfl, H1.out.set1 true, grown_setL HG.out _ _ _⟩

theorem infoBool : (Tryz.prog.info? 4).map (fun i => (i.zero, i.size, i.bytes)) = some (some (.bool false), 1, 1) := by kernel_rfl
theorem make2 (w : World) : (Instr.makeSlice 215 (.int .i64 2) (.int .i64 2)).run Tryz.prog w = .ok (.slice (some ⟨w.heap.size, 0, none⟩) 2 2) (w.alloc (.cells #[.bool false, .bool false] 4)) := by
  have h := run_make_row' (P := Tryz.prog) 215 4 (.bool false) 1 Tryz.underlying215 infoBool rfl .i64 .i64 2 (by decide) (by decide) w
  rw [show madeCells #[Value.bool false] 2 = #[.bool false, .bool false] from by unfold madeCells; rw [show Array.range 2 = #[0, 1] from by decide]; simp] at h
  exact h
def matchB (s : ByteArray) : Bool := (bl s).all standB
theorem all_succ (l : List UInt8) (k : Nat) (h : k < l.length) : (l.take (k + 1)).all standB = ((l.take k).all standB && standB l[k]) := by
  rw [List.take_succ_eq_append_getElem h, List.all_append]; simp
theorem PatAt.grown {w w' : World} {n b ba : Nat} (h : PatAt w n b) (hg : w.grownBy w' (some ba)) (hb : ba < n ∨ w.heap.size ≤ ba) : PatAt w' n b := h.keep fun j hj hlt => hg.block j hlt (fun e => by cases e; omega)
set_option maxRecDepth 100000 in
set_option maxHeartbeats 4000000 in
theorem matchC (n b : Nat) (s : ByteArray) (w : World) (hp : PatAt w n b) (hsz : s.size ≤ 1000000) :
    Calls Tryz.prog 126 #[.pointer (some ⟨b, 0, none⟩), .string s] w fun e w' => e = .returned (.bool (matchB s)) ∧ Gr w w' := by
  have HP := Lib.hid hp
  obtain ⟨q, c, rest, n1, n2, p1, p2⟩ := hp
  have d1 : w.cell? ⟨b, 1, none⟩ = some (.slice (some ⟨q, 0, none⟩) 1 c) := (cell_of_row w b 1 _ _ _ p1).trans rfl
  have hmk := make2
  have d2 : w.cell? ⟨q, 0, none⟩ = some starV := by rw [cell_of_row w q 0 _ _ _ p2, Array.getElem?_append]; rfl
  clear p1 p2 n1 n2
  go_enter Tryz.func126, Tryz.ntmps126
  go_wp2_with fail
  have t0 : Two (w.alloc (.cells #[.bool true, .bool false] 4)) w.heap.size true false := heap_alloc_new w _
  refine (spreadC n b w.heap.size true _ (HP.out.gr ((Gr.refl w).alloc _)) t0).mono ?_
  rintro e w1 ⟨rfl, t1, g1⟩
  have hg1 : Gr w w1 := ((Gr.refl w).alloc _).grown g1 (fun k hk => by cases hk; exact Nat.le_refl _)
  obtain ⟨cap, W, hrun, hlay, hby, hcap⟩ := conv_bytes s w1
  have HG := Lib.hid (hg1.trans hlay.1); have HB := Lib.hid hby; have T1 := Lib.hid (t1.gr hlay.1)
  have hne0 : w.heap.size < w1.heap.size := t1.lt
  clear t0 t1 g1 hg1 hlay hby
  go_wp2_with fail
  go_loopw [5, 7, 8, 9, 10, 28, 29, 30, 31, 32, 33, 34, 35, 36, 37, 38, 39, 40, 41, 42, 43, 44, 45, 46, 47, 48, 49, 50, 51, 52, 53, 54, 55, 56, 57, 58, 59, 60, 61, 62, 63, 64, 65, 66, 67, 68, 69, 70, 71, 72] (fun at_ _ _ _ _ i _ _ _ _ _ _ _ _ _ _ _ _ _ _ _ _ _ _ _ _ _ _ _ _ _ _ _ _ _ _ _ _ _ _ _ _ _ _ _ _ _ _ _ _ wr => ∃ (k ba : Nat), k ≤ s.size ∧ i = .int .i64 k ∧ at_ = .slice (some ⟨ba, 0, none⟩) 2 2 ∧ w.heap.size ≤ ba ∧ ba ≠ w1.heap.size ∧ Hid (Gr w wr) ∧ Hid (BytesAt wr w1.heap.size 0 (bl s)) ∧ Hid (Two wr ba (((bl s).take k).all standB) (((bl s).take k).all standB))) (fun _ _ _ _ _ i _ _ _ _ _ _ _ _ _ _ _ _ _ _ _ _ _ _ _ _ _ _ _ _ _ _ _ _ _ _ _ _ _ _ _ _ _ _ _ _ _ _ _ _ _ => s.size - (intOf i).toNat)
  case atStart => exact ⟨0, w.heap.size, Nat.zero_le _, rfl, rfl, Nat.le_refl _, by omega, HG.out, HB.out, T1.out⟩
  case round =>
    obtain ⟨k, ba, hk, rfl, rfl, hba, hbne, hG, hB, hT⟩ := hrel
    have dd1 : wr.cell? ⟨b, 1, none⟩ = some (.slice (some ⟨q, 0, none⟩) 1 c) := (hG.out.cell (p := ⟨b, 1, none⟩) (World.block_lt_of_cell? w _ d1)).trans d1
    have e0 := hT.out.c0
    have e1 := hT.out.c1
    by_cases hlt : k < s.size
    · have hkb := hB.out k (by rw [bl_length]; exact hlt)
      have hk1 : (k : Int) < (s.size : Int) := by omega
      have hk2 : (0 : Int) ≤ (k : Int) := by omega
      rw [Nat.zero_add] at hkb
      have HS := Lib.hid (all_succ (bl s) k (by rw [bl_length]; exact hlt))
      generalize ((bl s).take k).all standB = x at *
      generalize (bl s)[k]'(by rw [bl_length]; exact hlt) = ch at *
      have hbw : b < wr.heap.size := Nat.lt_of_lt_of_le (World.block_lt_of_cell? w _ d1) hG.out.size
      have hqw : q < wr.heap.size := Nat.lt_of_lt_of_le (World.block_lt_of_cell? w _ d2) hG.out.size
      have dd2 : wr.cell? ⟨q, 0, none⟩ = some starV := (hG.out.cell (p := ⟨q, 0, none⟩) (World.block_lt_of_cell? w _ d2)).trans d2
      have haw := hT.out.lt
      have tn : Hid (Two (wr.alloc (.cells #[.bool false, .bool false] 4)) wr.heap.size false false) := heap_alloc_new wr _
      have gn := Lib.hid ((Gr.refl wr).alloc (.cells #[.bool false, .bool false] 4))
      have hw1 : w1.heap.size < wr.heap.size := World.block_lt_of_cell? wr _ hkb
      cases x with
      | false =>
        rw [Bool.false_and] at HS
        go_wp2_with fail
        refine wp_loop_rounds 2 ?_
        rw [rounds_succ]
        go_wp2_with fail
        rw [rounds_succ]
        go_wp2_with fail
        refine (spreadC n b wr.heap.size false _ (HP.out.gr (hG.out.trans gn.out)) tn.out).mono ?_
        rintro e w3 ⟨rfl, t3, g3⟩
        have T3 := Lib.hid t3
        have G3 : Hid (Gr wr w3) := gn.out.grown g3 (fun k hk => by cases hk; exact Nat.le_refl _)
        clear t3 g3
        go_wp2_with fail
        go_roundw
        case rel => exact ⟨k + 1, wr.heap.size, by omega, by go_num, rfl, hG.out.size, by omega, hG.out.trans G3.out, hB.out.gr G3.out hw1, by show Two _ _ _ _; rw [HS.out]; exact T3.out⟩
        case measure => simp [intOf]; omega
      | true =>
        rw [Bool.true_and] at HS
        have HST := Lib.hid (standsC ch)
        cases hst : standB ch with
        | false =>
          rw [hst] at HS
          simp only [hst] at HST
          clear hst
          go_wp2_with fail
          refine wp_loop_rounds 2 ?_
          rw [rounds_succ]
          go_wp2_with fail
          refine (HST.out _).mono ?_
          rintro e w2 ⟨rfl, hg2⟩
          have tn2 := Lib.hid (tn.out.gr hg2)
          have gn2 := Lib.hid (gn.out.trans hg2)
          have dd1' : w2.cell? ⟨b, 1, none⟩ = some (.slice (some ⟨q, 0, none⟩) 1 c) := (gn2.out.cell (p := ⟨b, 1, none⟩) hbw).trans dd1
          clear hg2
          go_wp2_with fail
          rw [rounds_succ]
          go_wp2_with fail
          refine (spreadC n b wr.heap.size false _ (HP.out.gr (hG.out.trans gn2.out)) tn2.out).mono ?_
          rintro e w3 ⟨rfl, t3, g3⟩
          have T3 := Lib.hid t3
          have G3 : Hid (Gr wr w3) := gn2.out.grown g3 (fun k hk => by cases hk; exact Nat.le_refl _)
          clear t3 g3
          go_wp2_with fail
          go_roundw
          case rel => exact ⟨k + 1, wr.heap.size, by omega, by go_num, rfl, hG.out.size, by omega, hG.out.trans G3.out, hB.out.gr G3.out hw1, by show Two _ _ _ _; rw [HS.out]; exact T3.out⟩
          case measure => simp [intOf]; omega
        | true =>
          rw [hst] at HS
          simp only [hst] at HST
          clear hst
          go_wp2_with fail
          refine wp_loop_rounds 2 ?_
          rw [rounds_succ]
          go_wp2_with fail
          refine (HST.out _).mono ?_
          rintro e w2 ⟨rfl, hg2⟩
          have tn2 := Lib.hid (tn.out.gr hg2)
          have gn2 := Lib.hid (gn.out.trans hg2)
          clear hg2
          go_wp2_with fail
          refine (isStarC _).mono ?_
          rintro e w4 ⟨rfl, hg4⟩
          have gn4 := Lib.hid (gn2.out.trans hg4)
          have tn4 := Lib.hid (tn2.out.gr hg4)
          have dd1' : w4.cell? ⟨b, 1, none⟩ = some (.slice (some ⟨q, 0, none⟩) 1 c) := (gn4.out.cell (p := ⟨b, 1, none⟩) hbw).trans dd1
          have c0 := tn4.out.c0
          have c1 := tn4.out.fr 0
          have tn5 := Lib.hid (tn4.out.set0 true)
          have gn5 := Lib.hid (gn4.out.setCell (p := ⟨wr.heap.size, 0, none⟩) (Nat.le_refl _) (.bool true))
          clear hg4
          go_wp2_with fail
          rw [rounds_succ]
          go_wp2_with fail
          refine (spreadC n b wr.heap.size true _ (HP.out.gr (hG.out.trans gn5.out)) tn5.out).mono ?_
          rintro e w3 ⟨rfl, t3, g3⟩
          have T3 := Lib.hid t3
          have G3 : Hid (Gr wr w3) := gn5.out.grown g3 (fun k hk => by cases hk; exact Nat.le_refl _)
          clear t3 g3
          go_wp2_with fail
          go_roundw
          case rel => exact ⟨k + 1, wr.heap.size, by omega, by go_num, rfl, hG.out.size, by omega, hG.out.trans G3.out, hB.out.gr G3.out hw1, by show Two _ _ _ _; rw [HS.out]; exact T3.out⟩
          case measure => simp [intOf]; omega
    · have hall : Hid (matchB s = ((bl s).take k).all standB) := by show _ = _; unfold matchB; rw [List.take_of_length_le (by rw [bl_length]; omega)]
      generalize ((bl s).take k).all standB = x at *
      go_wp2_with fail
      go_ret
      exact ⟨ret_bool hall.out.symm, hG.out⟩

set_option maxRecDepth 100000 in
set_option maxHeartbeats 1000000 in
theorem lenC (n b : Nat) (w : World) (hp : ListAt w n b) : Calls Tryz.prog 125 #[.pointer (some ⟨b, 0, none⟩)] w fun e w' => e = .returned (.int .i64 1) ∧ w = w' := by
  obtain ⟨q, c, p, rest, n1, n2, p1, p2, _⟩ := hp
  have d1 : w.cell? ⟨b, 1, none⟩ = some (.slice (some ⟨q, 0, none⟩) 1 c) := (cell_of_row w b 1 _ _ _ p1).trans rfl
  clear p1 p2
  go_enter Tryz.func125, Tryz.ntmps125
  go_wp2_with fail
  go_ret
  exact ⟨rfl, rfl⟩
set_option maxRecDepth 100000 in
set_option maxHeartbeats 1000000 in
theorem verdictC (n b : Nat) (s : ByteArray) (w : World) (hp : ListAt w n b) (hsz : s.size ≤ 1000000) : Calls Tryz.prog 89 #[.pointer (some ⟨b, 0, none⟩), .string s] w fun e w' => e = .returned (.int .i64 (if matchB s = true then 1 else 0)) ∧ Gr w w' := by
  have HL := Lib.hid (lenC n b w hp)
  obtain ⟨q, c, p, rest, n1, n2, p1, p2, p3⟩ := hp
  have d1 : w.cell? ⟨b, 1, none⟩ = some (.slice (some ⟨q, 0, none⟩) 1 c) := (cell_of_row w b 1 _ _ _ p1).trans rfl
  have d2 : w.cell? ⟨q, 0, none⟩ = some (.pointer (some ⟨p, 0, none⟩)) := by rw [cell_of_row w q 0 _ _ _ p2, Array.getElem?_append]; rfl
  have d3 : w.cell? ⟨q, 1, none⟩ = some (.int .i64 1) := by rw [cell_of_row w q 1 _ _ _ p2, Array.getElem?_append]; rfl
  have HM := Lib.hid (matchC n p s w p3 hsz)
  have hbw : b < w.heap.size := World.block_lt_of_cell? w _ d1
  have hqw : q < w.heap.size := World.block_lt_of_cell? w _ d2
  clear p1 p2 p3
  cases hm : matchB s with
  | true =>
    rw [hm] at HM
    go_enter Tryz.func89, Tryz.ntmps89
    go_wp2_with fail
    refine HL.out.mono ?_
    rintro e w' ⟨rfl, rfl⟩
    go_wp2_with fail
    refine wp_loop_rounds 2 ?_
    rw [rounds_succ]
    go_wp2_with fail
    refine HM.out.mono ?_
    rintro e w1 ⟨rfl, hg⟩
    have k1 := (hg.cell (p := ⟨b, 1, none⟩) hbw).trans d1
    have k2 := (hg.cell (p := ⟨q, 1, none⟩) hqw).trans d3
    go_wp2_with fail
    go_ret
    exact ⟨rfl, hg⟩
  | false =>
    rw [hm] at HM
    go_enter Tryz.func89, Tryz.ntmps89
    go_wp2_with fail
    refine HL.out.mono ?_
    rintro e w' ⟨rfl, rfl⟩
    go_wp2_with fail
    refine wp_loop_rounds 2 ?_
    rw [rounds_succ]
    go_wp2_with fail
    refine HM.out.mono ?_
    rintro e w1 ⟨rfl, hg⟩
    go_wp2_with fail
    rw [rounds_succ]
    go_wp2_with fail
    go_ret
    exact ⟨rfl, hg⟩
end Go.Proofs.YtcjacgjeiljfgaaGreatDoor

namespace Go.Proofs.YtcjacgjeiljfgaaGreatDoor
open Go.RowKit

def aut9 : Aut := ⟨#[9, 0, 0, 0, 0, 0, 0, 0, 0, 0, 0, 0, 0, 0, 0, 0], rfl⟩
/-- The cells of the one authority. -/
def authC : List Value := .string ⟨#[42]⟩ :: bC aut9
theorem authC_len : authC.length = 17 := by simp [authC, bC_length]
theorem auth_whole : rowOf authC 0 17 = authC := rowOf_all _ _ authC_len
theorem auth_author : rowOf authC 1 16 = bC aut9 := by show (bC aut9).take 16 = _; rw [List.take_of_length_le (by rw [bC_length]; decide)]
theorem auth_one : oneB authC = true := by simp [authC, oneB_cons, oneB_bC, Value.oneCell']
theorem infoAuth : (Tryz.prog.info? 76).map (fun i => (i.zero, i.size, i.bytes)) = some (some (.agg (.string ⟨#[]⟩ :: List.replicate 16 (.int .u8 0)).toArray), 17, 32) := by kernel_rfl
def CloneAuPost (w : World) (e : Ending) (w' : World) : Prop := ∃ g c rest, e = .returned (.slice (some ⟨g, 0, none⟩) 1 c) ∧ w.heap.size ≤ g ∧ w'.heap[g]? = some (.cells (authC ++ rest).toArray 76 (0, 0)) ∧ Gr w w'
theorem row_of_owns {w : World} {base : Nat} {e : TypeId} {size : Nat} {v : Value} {n : Nat} {row : List Value} (hn : 0 < n) (h : w.ownsRow base e size v n row) :
    ∃ g c rest, v = .slice (some ⟨g, 0, none⟩) n c ∧ base ≤ g ∧ w.heap[g]? = some (.cells (row ++ rest).toArray e (0, 0)) := by
  obtain ⟨_, h2⟩ := h
  rcases h2 with ⟨_, h0⟩ | ⟨g, cap, cur, rfl, hg, hh, hc, hm, hs, ht⟩
  · omega
  · exact ⟨g, cap, cur.toList.drop (n * size), rfl, hg, by rw [hh, ← ht, List.take_append_drop]⟩
set_option maxRecDepth 100000 in
set_option maxHeartbeats 2000000 in
theorem cloneAu (b : Nat) (w : World) (hb : w.heap[b]? = some (.cells authC.toArray 76 (0, 0))) :
    Calls Tryz.prog 57 #[.slice (some ⟨b, 0, none⟩) 1 1] w (CloneAuPost w) := by
  have hnil := Lib.run_eql_slice_nil (P := Tryz.prog) w 77 76 (some ⟨b, 0, none⟩) 1 1 0 0 Tryz.underlying77
  obtain ⟨i0, hi, hz0, hz1, hz2⟩ := info_parts infoAuth
  have HC : Hid (∀ j u, authC[j]? = some u → (w.alloc (.cells #[] 76)).cell? ((⟨b, 0, none⟩ : Addr).add j) = some u) := by
    intro j u hu
    rw [Addr.add_lit, Nat.zero_add, World.cell?_alloc_lt _ _ _ (Array.getElem?_eq_some_iff.1 hb).1, cell_block hb]
    exact hu
  have HO : Hid (∀ u ∈ authC, u.oneCell' = true) := fun u hu => List.all_eq_true.1 auth_one u hu
  have HW : Hid ((w.alloc (.cells #[] 76)).ownsRow w.heap.size 76 17 (.slice (some ⟨w.heap.size, 0, none⟩) 0 0) 0 []) :=
    ⟨rfl, .inr ⟨w.heap.size, 0, #[], rfl, Nat.le_refl _, heap_alloc_new w _, Nat.le_refl _, Nat.zero_le _, rfl, rfl⟩⟩
  clear hb
  go_enter Tryz.func57, Tryz.ntmps57
  go_wp2_with (at_builtin; refine wpList_append_own _ rfl _ _ 77 rfl w.heap.size 76 i0 _ 17 32 Tryz.underlying77 hi hz0 hz1 hz2 rfl (by decide) _ 0 [] rfl HW.out ⟨b, 0, none⟩ 1 1 authC rfl authC_len HC.out HO.out (by unfold maxLen; omega) (by omega) (by simp) ?_; intro v' w1 hown' hgrow _)
  go_ret
  rw [Nat.zero_add, List.nil_append] at hown'
  obtain ⟨g, c, rest, rfl, h1, h2⟩ := row_of_owns (by decide) hown'
  exact ⟨g, c, rest, rfl, h1, h2, ((Gr.refl w).alloc _).grown hgrow (fun k hk => Nat.le_of_eq (Option.some.inj hk))⟩

/-- What keeps every block of cells. -/
def KeepsC (w w' : World) : Prop := ∀ (j : Nat) (cs : Array Value) (t : TypeId) (fr : Nat × Nat), w.heap[j]? = some (.cells cs t fr) → w'.heap[j]? = w.heap[j]?
theorem Gr.keepsC {w w' : World} (h : Gr w w') : KeepsC w w' := fun _ _ _ _ hj => h.block (Array.getElem?_eq_some_iff.1 hj).1
theorem PatAt.keepC {w w' : World} {n b : Nat} (h : PatAt w n b) (hk : KeepsC w w') : PatAt w' n b := by
  obtain ⟨q, c, rest, n1, n2, h1, h2⟩ := h
  exact ⟨q, c, rest, n1, n2, (hk _ _ _ _ h1).trans h1, (hk _ _ _ _ h2).trans h2⟩
theorem ListAt.keepC {w w' : World} {n b : Nat} (h : ListAt w n b) (hk : KeepsC w w') : ListAt w' n b := by
  obtain ⟨q, c, p, rest, n1, n2, h1, h2, h3⟩ := h
  exact ⟨q, c, p, rest, n1, n2, (hk _ _ _ _ h1).trans h1, (hk _ _ _ _ h2).trans h2, h3.keepC hk⟩
/-- A registry of the one authority, but for its definitions. -/
def RegMem (w : World) (n br bm : Nat) : Prop := ∃ (g c q c2 lb : Nat) (rest : List Value) (rest2 : Array Value), n ≤ br ∧ w.heap[br]? = some (.cells #[.slice (some ⟨g, 0, none⟩) 1 c, .slice (some ⟨q, 0, none⟩) 1 c2, .map (some bm)] 114 (0, 0)) ∧ w.heap[g]? = some (.cells (authC ++ rest).toArray 76 (0, 0)) ∧
  w.heap[q]? = some (.cells (#[.pointer (some ⟨lb, 0, none⟩)] ++ rest2) 115 (0, 0)) ∧ ListAt w n lb
theorem RegMem.keepC {w w' : World} {n br bm : Nat} (h : RegMem w n br bm) (hk : KeepsC w w') : RegMem w' n br bm := by
  obtain ⟨g, c, q, c2, lb, rest, rest2, n1, h1, h2, h3, h4⟩ := h
  exact ⟨g, c, q, c2, lb, rest, rest2, n1, (hk _ _ _ _ h1).trans h1, (hk _ _ _ _ h2).trans h2, (hk _ _ _ _ h3).trans h3, h4.keepC hk⟩
def NewPost (w : World) (e : Ending) (w' : World) : Prop := ∃ br bm, e = .returned (.tuple #[.pointer (some ⟨br, 0, none⟩), .int .i64 0, .int .i64 0]) ∧ RegMem w' w.heap.size br bm ∧ w.heap.size ≤ bm ∧ w'.heap[bm]? = some (.map #[] 0) ∧ Gr w w'
theorem newDone (w w1 w3 : World) (g c lb : Nat) (rest : List Value) (A : Obj) (c2 : Nat) (rest2 : Array Value) (hgr : Gr w w1) (hg3 : Gr w1 w3) (hau : w1.heap[g]? = some (.cells (authC ++ rest).toArray 76 (0, 0)))
    (hm : w3.heap[w1.heap.size]? = some (.map #[] 0)) (hr : w3.heap[w1.heap.size + 1]? = some (.cells #[.slice (some ⟨g, 0, none⟩) 1 c, .slice none 0 0, .map (some w1.heap.size)] 114 (0, 0))) (n : Nat) (hn : w1.heap.size + 2 ≤ n) (hl : ListAt w3 n lb) (W : World) (hW : W = (((w3.alloc A).alloc (.cells (#[.pointer (some ⟨lb, 0, none⟩)] ++ rest2) 115)).setCell ⟨w1.heap.size + 1, 1, none⟩ (.slice (some ⟨w3.heap.size + 1, 0, none⟩) 1 c2)).drew) :
    RegMem W w.heap.size (w1.heap.size + 1) w1.heap.size ∧ w.heap.size ≤ w1.heap.size ∧ W.heap[w1.heap.size]? = some (.map #[] 0) ∧ Gr w W := by
  subst hW
  have hz := hgr.size
  have g4 := ((Gr.refl w3).alloc A).alloc (.cells (#[.pointer (some ⟨lb, 0, none⟩)] ++ rest2) 115)
  have hq := heap_alloc2_new w3 A (.cells (#[.pointer (some ⟨lb, 0, none⟩)] ++ rest2) 115)
  have hr4 := (g4.block (Array.getElem?_eq_some_iff.1 hr).1).trans hr
  have hm4 := (g4.block (Array.getElem?_eq_some_iff.1 hm).1).trans hm
  have hau4 := ((hg3.trans g4).block (Array.getElem?_eq_some_iff.1 hau).1).trans hau
  have hl4 := hl.gr g4
  have hgl := (Array.getElem?_eq_some_iff.1 hau).1
  have hrl := (Array.getElem?_eq_some_iff.1 hr).1
  have gg := hgr.trans (hg3.trans g4)
  generalize (w3.alloc A).alloc (.cells (#[.pointer (some ⟨lb, 0, none⟩)] ++ rest2) 115) = w4 at *
  have hs := heap_setCell_same w4 (w1.heap.size + 1) 1 _ _ (.slice (some ⟨w3.heap.size + 1, 0, none⟩) 1 c2) hr4
  have ho : ∀ j, j ≠ w1.heap.size + 1 → (w4.setCell ⟨w1.heap.size + 1, 1, none⟩ (.slice (some ⟨w3.heap.size + 1, 0, none⟩) 1 c2)).heap[j]? = w4.heap[j]? := fun j hj => heap_setCell_other w4 ⟨w1.heap.size + 1, 1, none⟩ j _ hj
  have h6 : ListAt (w4.setCell ⟨w1.heap.size + 1, 1, none⟩ (.slice (some ⟨w3.heap.size + 1, 0, none⟩) 1 c2)) n lb := hl4.keep fun j hj _ => ho j (by omega)
  refine ⟨⟨g, c, w3.heap.size + 1, c2, lb, rest, rest2, by omega, hs, (ho g (by omega)).trans hau4, (ho (w3.heap.size + 1) (by omega)).trans hq, ?_⟩, hz, (ho w1.heap.size (by omega)).trans hm4, (gg.setCell (p := ⟨w1.heap.size + 1, 1, none⟩) (by simp; omega) _).drew⟩
  obtain ⟨q', c', p', r', n1, n2, x1, x2, x3⟩ := h6
  exact ⟨q', c', p', r', by omega, by omega, x1, x2, x3.mono (by omega)⟩
set_option maxRecDepth 100000 in
set_option maxHeartbeats 2000000 in
theorem newC (b : Nat) (w : World) (hE : Env w) (hb : w.heap[b]? = some (.cells authC.toArray 76 (0, 0))) :
    Calls Tryz.prog 21 #[.slice (some ⟨b, 0, none⟩) 1 1] w (NewPost w) := by
  have HC := Lib.hid (cloneAu b w hb)
  have HB := Lib.hid hb
  have hmm := @run_makeMap Tryz.prog
  have HE := Lib.hid hE
  have hone := auth_one
  have hlen := authC_len
  have hbw : b < w.heap.size := (Array.getElem?_eq_some_iff.1 hb).1
  clear hb hE
  go_enter Tryz.func21, Tryz.ntmps21
  go_wp2_with fail
  refine HC.out.mono ?_
  rintro e w1 ⟨g, c, rest, rfl, hg, hau, hgr⟩
  have b1 := (hgr.block hbw).trans HB.out
  have q1 := hasRow_block b1 0 17 (by rw [authC_len]; decide)
  have q2 := (rowAt_block b1 0 17 (by rw [authC_len]; decide)).trans auth_whole
  have hbw1 : b < w1.heap.size := Nat.lt_of_lt_of_le hbw hgr.size
  have HAU := Lib.hid hau; have HGR := Lib.hid hgr
  clear b1 hau hgr
  go_wp2_with fail
  refine wp_loop_rounds 2 ?_
  rw [rounds_succ]
  go_wp2_with fail
  refine (parseListC _ (HE.out.gr (((HGR.out.alloc _).alloc _).alloc _))).mono ?_
  rintro e w3 ⟨rfl, hl, hg3⟩
  have m3 := (hg3.block (b := w1.heap.size) (by simp; omega)).trans (heap3a w1 _ _ _)
  have r3 := (hg3.block (b := w1.heap.size + 1) (by simp)).trans (((((Gr.refl _).alloc _).block (b := w1.heap.size + 1) (by simp)).trans (heap_alloc2_new w1 _ _)))
  have gg3 := ((((Gr.refl w1).alloc _).alloc _).alloc _).trans hg3
  have c1 : w3.cell? ⟨w1.heap.size + 1, 1, none⟩ = some (.slice none 0 0) := (cell_of_row w3 _ 1 _ _ _ r3).trans rfl
  have f1 : w3.frozen? ⟨w1.heap.size + 1, 1, none⟩ = false := frozen_of_row w3 _ _ _ _ r3
  rw [size3 w1] at hl
  have M3 := Lib.hid m3; have R3 := Lib.hid r3; have GG3 := Lib.hid gg3; have HL := Lib.hid hl
  have z3 : w1.heap.size + 1 < w3.heap.size := (Array.getElem?_eq_some_iff.1 r3).1
  have hcap : ¬ 281474976710656 < Builtin.nextslicecap 1 0 * Tryz.t115.bytes := by decide
  have fr2 : ∀ A B, ((w3.alloc A).alloc B).frozen? ⟨w1.heap.size + 1, 1, none⟩ = false := fun A B => ((((Gr.refl w3).alloc A).alloc B).frozen (p := ⟨w1.heap.size + 1, 1, none⟩) z3).trans f1
  have cl2 : ∀ A B, ((w3.alloc A).alloc B).cell? ⟨w1.heap.size + 1, 1, none⟩ = some (.slice none 0 0) := fun A B => ((((Gr.refl w3).alloc A).alloc B).cell (p := ⟨w1.heap.size + 1, 1, none⟩) z3).trans c1
  have fr3 : ∀ A B, ((w3.alloc A).alloc B).drew.frozen? ⟨w1.heap.size + 1, 1, none⟩ = false := fr2
  clear m3 r3 gg3 hl hg3 q1 q2
  go_wp2_with fail
  rw [rounds_succ]
  go_wp2_with fail
  go_ret3
  exact ⟨_, _, rfl, newDone w w1 w3 g c _ rest _ _ _ HGR.out GG3.out HAU.out M3.out R3.out _ (by omega) HL.out _ rfl⟩
end Go.Proofs.YtcjacgjeiljfgaaGreatDoor

namespace Go.Proofs.YtcjacgjeiljfgaaGreatDoor
open Go.RowKit

def isAuthB (g : ByteArray) (x : Aut) : Bool := (aut9 == x) && matchB g
set_option maxRecDepth 100000 in
set_option maxHeartbeats 4000000 in
theorem isAuthC (n br bm : Nat) (g : ByteArray) (x : Aut) (w : World) (hr : RegMem w n br bm) (hsz : g.size ≤ 1000000) :
    Calls Tryz.prog 60 #[.pointer (some ⟨br, 0, none⟩), .string g, .agg (bC x).toArray] w fun e w' => e = .returned (.bool (isAuthB g x)) ∧ Gr w w' := by
  obtain ⟨ga, c, q, c2, lb, rest, rest2, n1, h1, h2, h3, h4⟩ := hr
  have d0 : w.cell? ⟨br, 0, none⟩ = some (.slice (some ⟨ga, 0, none⟩) 1 c) := (cell_of_row w br 0 _ _ _ h1).trans rfl
  have d1 : w.cell? ⟨br, 1, none⟩ = some (.slice (some ⟨q, 0, none⟩) 1 c2) := (cell_of_row w br 1 _ _ _ h1).trans rfl
  have d2 : w.cell? ⟨q, 0, none⟩ = some (.pointer (some ⟨lb, 0, none⟩)) := by rw [cell_of_row w q 0 _ _ _ h3, Array.getElem?_append]; rfl
  have r1 := hasRow_block h2 0 17 (by rw [List.length_append, authC_len]; omega)
  have r2 : rowAt w ⟨ga, 0, none⟩ 17 = authC := (rowAt_block h2 0 17 (by rw [List.length_append, authC_len]; omega)).trans (by unfold rowOf; rw [List.drop_zero, List.take_left' authC_len])
  have w1 : br < w.heap.size := World.block_lt_of_cell? w _ d0
  have w2 : q < w.heap.size := World.block_lt_of_cell? w _ d2
  have w3 : ga < w.heap.size := (Array.getElem?_eq_some_iff.1 h2).1
  have hone := auth_one
  have hlen := authC_len
  have hga := auth_author
  have G2 := ((Gr.refl w).alloc (.cells (bC x).toArray 25)).alloc (.cells authC.toArray 76)
  have HV := Lib.hid (verdictC n lb g _ (h4.gr G2) hsz)
  have HG2 := Lib.hid G2
  clear h1 h2 h3 h4 G2
  cases hx : (aut9 == x) with
  | false =>
    go_enter Tryz.func60, Tryz.ntmps60
    go_wp2_with fail
    refine wp_loop_rounds 2 ?_
    rw [rounds_succ]
    go_wp2_with fail
    rw [rounds_succ]
    go_wp2_with fail
    go_ret
    exact ⟨ret_bool (by unfold isAuthB; rw [hx]; rfl), HG2.out⟩
  | true =>
    have hq : Hid (isAuthB g x = matchB g) := by show _ = _; unfold isAuthB; rw [hx]; rfl
    cases hm : matchB g with
    | true =>
      rw [hm] at HV
      go_enter Tryz.func60, Tryz.ntmps60
      go_wp2_with fail
      refine wp_loop_rounds 2 ?_
      rw [rounds_succ]
      go_wp2_with fail
      refine HV.out.mono ?_
      rintro e w1 ⟨rfl, hg⟩
      go_wp2_with fail
      go_ret
      exact ⟨ret_bool (by rw [hq.out, hm]), HG2.out.trans hg⟩
    | false =>
      rw [hm] at HV
      go_enter Tryz.func60, Tryz.ntmps60
      go_wp2_with fail
      refine wp_loop_rounds 2 ?_
      rw [rounds_succ]
      go_wp2_with fail
      refine HV.out.mono ?_
      rintro e w1 ⟨rfl, hg⟩
      go_wp2_with fail
      rw [rounds_succ]
      go_wp2_with fail
      go_ret
      exact ⟨ret_bool (by rw [hq.out, hm]), HG2.out.trans hg⟩
end Go.Proofs.YtcjacgjeiljfgaaGreatDoor

namespace Go.Proofs.YtcjacgjeiljfgaaGreatDoor
open Go.RowKit

/-- A registry of the one authority with its definitions. -/
def Reg (w : World) (n br bm : Nat) (ents : List (Dfn × List Aut)) : Prop := RegMem w n br bm ∧ ∃ D, Defs w bm ents.length D ents
theorem Reg.gr {w w' : World} {n br bm : Nat} {ents : List (Dfn × List Aut)} (h : Reg w n br bm ents) (hg : Gr w w') : Reg w' n br bm ents := by
  obtain ⟨h1, D, h2⟩ := h
  exact ⟨h1.keepC hg.keepsC, D, h2.gr hg⟩
theorem Reg.at {w : World} {n br bm : Nat} {ents : List (Dfn × List Aut)} (h : Reg w n br bm ents) (h12 : ents.length ≤ 12) : RegAt w (some br) ents := by
  obtain ⟨⟨g, c, q, c2, lb, rest, rest2, n1, h1, _⟩, D, h2⟩ := h
  exact ⟨bm, _, D, (cell_of_row w br 2 _ _ _ h1).trans rfl, h2, h12⟩
abbrev Vis := Id × ByteArray × List Aut
/-- What a definition shows. -/
def vis (e : Dfn × List Aut) : Vis := (e.1.id, e.1.group, e.2)
def accOk (d : Dfn) (l : List Aut) : Bool := (dfnErr d l == 0) && isAuthB d.group d.author
def addV (L : List Vis) (d : Dfn) (l : List Aut) : List Vis := if (accOk d l && !(L.any fun v => v.1 == d.id)) = true then L ++ [(d.id, d.group, l)] else L
def AddPost (n br bm : Nat) (d : Dfn) (l : List Aut) (ents : List (Dfn × List Aut)) (w : World) (e : Ending) (w' : World) : Prop :=
  ∃ r ents', e = .returned (.int .i64 r) ∧ Reg w' n br bm ents' ∧ w.grownBy w' (some bm) ∧ ents'.map vis = addV (ents.map vis) d l
theorem AddPost.same {n br bm : Nat} {d : Dfn} {l : List Aut} {ents : List (Dfn × List Aut)} {w w' : World} (r : Int) (h : Reg w n br bm ents) (hg : Gr w w') (hn : (accOk d l && !((ents.map vis).any fun v => v.1 == d.id)) = false) : AddPost n br bm d l ents w (.returned (.int .i64 r)) w' :=
  ⟨r, ents, rfl, h.gr hg, ⟨hg.os, hg.tape, hg.output, hg.size, fun k hk _ => hg.block hk⟩, by unfold addV; rw [hn]; rfl⟩

def dfn0 : Dfn := ⟨Vector.replicate 32 0, Vector.replicate 16 0, ⟨#[]⟩, 0, false, false, .slice none 0 0, ⟨#[]⟩⟩
theorem zeroDfn (w : World) : (zeroValue 49).run Tryz.prog w = .ok (.agg (dfnC dfn0).toArray) w := by kernel_rfl
theorem lookAll {w : World} {bm n : Nat} {D : DataW Value} {ents : List (Dfn × List Aut)} (h : Defs w bm n D ents) (x : Id) :
    ∃ dx : Dfn, dx.mods.oneCell' = true ∧ ∀ W, Gr w W → (Instr.lookup 111 (.map (some bm)) (.agg (bC x).toArray) true).run Tryz.prog W = .ok (.tuple #[.agg (dfnC dx).toArray, .bool (Maps.has D (kl x))]) W := by
  have key : ∀ W, Gr w W → ∃ dx : Dfn, D.atKey (kl x) (.held (.agg (dfnC dfn0).toArray)) = .held (.agg (dfnC dx).toArray) ∧ (Instr.lookup 111 (.map (some bm)) (.agg (bC x).toArray) true).run Tryz.prog W = .ok (.tuple #[.agg (dfnC dx).toArray, .bool (Maps.has D (kl x))]) W := by
    intro W hg
    obtain ⟨v, ps, hrun, hR⟩ := (h.gr hg).own.look_ok kId Tryz.underlying111 (zeroDfn W) (dR_mk dfn0) (kl_spec x)
    obtain ⟨dx, rfl⟩ := dR_inv hR
    exact ⟨dx, dR_eq hR, hrun⟩
  obtain ⟨dx, hd, _⟩ := key w (Gr.refl w)
  refine ⟨dx, ?_, fun W hg => ?_⟩
  · cases hh : Maps.has D (kl x) with
    | true =>
      obtain ⟨e, he, hk⟩ := (h.has _).1 hh
      rw [hk, h.elem e he] at hd
      have := dfnC_inj (List.toArray_inj (Value.agg.inj (DataW.held.inj hd)))
      rw [← this]
      obtain ⟨a, c, hv, _⟩ := (h.mods e he).1
      rw [hv]; rfl
    | false =>
      rw [Maps.atKey_of_not_has hh] at hd
      have := dfnC_inj (List.toArray_inj (Value.agg.inj (DataW.held.inj hd)))
      rw [← this]; rfl
  · obtain ⟨dx', hd', hrun⟩ := key W hg
    rw [hd] at hd'
    rw [dfnC_inj (List.toArray_inj (Value.agg.inj (DataW.held.inj hd')))]; exact hrun

theorem SlAt.turn {w w' : World} {v : Value} {n : Nat} {l : List (List Value)} (h : SlAt w v n l) (hn : 0 < n) (hk : ∀ b k u, w.cell? ⟨b, k, none⟩ = some u → w'.heap[b]? = w.heap[b]?) (hs : w.heap.size ≤ w'.heap.size) : SlAt w' v n l := by
  obtain ⟨a, cap, hv, hc, hj⟩ := h
  refine ⟨a, cap, hv, hc, fun j hlt => ?_⟩
  obtain ⟨b, k, ha, hb, h1, h2⟩ := hj j hlt
  have h0 := hasRow_iff.1 h1 0 hn
  rw [Addr.add_lit] at h0
  obtain ⟨u, hu⟩ := Option.isSome_iff_exists.1 h0
  have hh := hk b _ u hu
  have hcell : ∀ i, i < n → w'.cell? ((⟨b, k + j * n, none⟩ : Addr).add i) = w.cell? ((⟨b, k + j * n, none⟩ : Addr).add i) := fun i _ => World.cell?_of_block (w := w) (by rw [add_block]; exact hh)
  exact ⟨b, k, ha, Nat.lt_of_lt_of_le hb hs, (hasRow_congr hcell).trans h1, (rowAt_congr hcell).trans h2⟩
theorem turn_cell {w w' : World} {bm : Nat} (h : w.mapTurned w' bm) : ∀ b k u, w.cell? ⟨b, k, none⟩ = some u → w'.heap[b]? = w.heap[b]? := by
  intro b k u hu
  have hg := h.grown
  obtain ⟨es, clock, es', clock', hb, _⟩ := h
  refine hg.block b (World.block_lt_of_cell? w _ hu) (fun e => ?_)
  cases e
  simp [World.cell?, hb] at hu
theorem turn_keepsC {w w' : World} {bm : Nat} (h : w.mapTurned w' bm) : KeepsC w w' := by
  intro j cs t fr hj
  have hg := h.grown
  obtain ⟨es, clock, es', clock', hb, _⟩ := h
  refine hg.block j (Array.getElem?_eq_some_iff.1 hj).1 (fun e => ?_)
  cases e
  rw [hb] at hj
  cases hj
theorem storeAll {w w4 : World} {bm n : Nat} {D : DataW Value} {ents : List (Dfn × List Aut)} (h : Defs w bm n D ents) (hn : n ≤ 1000) (hg : Gr w w4) (d : Dfn) (l : List Aut) (hh : Maps.has D (kl d.id) = false) (ha : AutsAt w4 d.mods l) (hl : l.length ≤ 8) :
    ∃ w5, (Instr.mapUpdate 111 (.map (some bm)) (.agg (bC d.id).toArray) (.agg (dfnC d).toArray)).run Tryz.prog w4 = .ok () w5 ∧ (∃ D', Defs w5 bm (n + 1) D' (ents ++ [(d, l)])) ∧ w4.mapTurned w5 bm := by
  have h4 := h.gr hg
  obtain ⟨w5, hrun, hown, hturn⟩ := h4.own.store kId Tryz.underlying111 (by unfold maxLen; omega) (kl_spec d.id) (dR_mk d)
  have hM := h4.own.isMap
  have hk := kl_key d.id
  refine ⟨w5, hrun, ⟨D.put (kl d.id) (.held (.agg (dfnC d).toArray)), ⟨hown, ?_, ?_, ?_, ?_, ?_⟩⟩, hturn⟩
  · intro k
    by_cases e : k = kl d.id
    · subst e
      rw [Maps.has_put_same hM hk]
      exact ⟨fun _ => ⟨(d, l), by simp, rfl⟩, fun _ => rfl⟩
    · rw [Maps.has_put_other e, h.has]
      constructor
      · rintro ⟨x, hx, hk'⟩; exact ⟨x, by simp [hx], hk'⟩
      · rintro ⟨x, hx, hk'⟩
        rcases List.mem_append.1 hx with hx | hx
        · exact ⟨x, hx, hk'⟩
        · simp at hx; rw [hx] at hk'; exact absurd hk' e
  · intro e he z
    rcases List.mem_append.1 he with he | he
    · have hne : kl e.1.id ≠ kl d.id := fun q => by
        have := (h.has _).2 ⟨e, he, rfl⟩
        rw [q, hh] at this; cases this
      rw [Maps.atKey_put_other hne]; exact h.elem e he z
    · simp at he; subst he; exact Maps.atKey_put_same hM hk _ z
  · rw [Maps.size_put (h4.own.tidy kId), hh, List.length_append, h.size]; rfl
  · have hne : ∀ e ∈ ents, e.1.id ≠ d.id := fun e he q => by
      have := (h.has _).2 ⟨e, he, rfl⟩
      rw [q, hh] at this; cases this
    intro e he e' he' hq
    rcases List.mem_append.1 he with he | he <;> rcases List.mem_append.1 he' with he' | he'
    · exact h.apart e he e' he' hq
    · simp at he'; subst he'; exact absurd hq (hne e he)
    · simp at he; subst he; exact absurd hq.symm (hne e' he')
    · simp at he he'; rw [he, he']
  · intro e he
    have ht := turn_cell hturn
    have hs := hturn.grown.size
    rcases List.mem_append.1 he with he | he
    · exact ⟨(h4.mods e he).1.turn (by decide) ht hs, (h4.mods e he).2⟩
    · simp at he; subst he; exact ⟨ha.turn (by decide) ht hs, hl⟩

theorem setCells_drew (b : Nat) : ∀ (cs : List Value) (k : Nat) (w : World), w.drew.setCells b k cs = (w.setCells b k cs).drew
  | [], _, _ => rfl
  | v :: cs, k, w => setCells_drew b cs (k + 1) (w.setCell ⟨b, k, none⟩ v)
@[go_sem] theorem setCells_whole_drew (w : World) (t : TypeId) (b : Nat) (z cs : List Value) (hb : b = w.heap.size) (hz : cs.length = z.length) : (w.alloc (.cells z.toArray t)).drew.setCells b 0 cs = (w.alloc (.cells cs.toArray t)).drew := by
  rw [setCells_drew, setCells_whole w t b z cs hb hz]
theorem range_of_row {w : World} {b n : Nat} {x : Vector UInt8 n} (h1 : hasRow w ⟨b, 0, none⟩ n = true) (h2 : rowAt w ⟨b, 0, none⟩ n = bC x) : w.rangeAt b 0 (bC x) := by
  intro j v hj
  have hjn : j < n := by have := (List.getElem?_eq_some_iff.1 hj).1; rwa [bC_length] at this
  rw [← h2, rowAt, List.getElem?_map, List.getElem?_range hjn, Option.map_some] at hj
  have h0 := hasRow_iff.1 h1 j hjn
  obtain ⟨y, hy⟩ := Option.isSome_iff_exists.1 h0
  rw [hy] at hj
  rw [Addr.add_lit] at hy
  rw [hy]; exact hj
def KeepsRow (br bm b : Nat) (d : Dfn) (u : World) : Prop := u.cell? ⟨br, 2, none⟩ = some (.map (some bm)) ∧ u.rangeAt b 0 (bC d.id) ∧ hasRow u ⟨b, 0, none⟩ 54 = true ∧ rowAt u ⟨b, 0, none⟩ 54 = dfnC d
theorem keepRow {w u : World} (g : Gr w u) {br bm b : Nat} {d : Dfn} (zr : br < w.heap.size) (z : b < w.heap.size) (m : w.cell? ⟨br, 2, none⟩ = some (.map (some bm))) (i1 : hasRow w ⟨b, 0, none⟩ 32 = true) (i2 : rowAt w ⟨b, 0, none⟩ 32 = bC d.id) (i3 : hasRow w ⟨b, 0, none⟩ 54 = true) (i4 : rowAt w ⟨b, 0, none⟩ 54 = dfnC d) : KeepsRow br bm b d u :=
  ⟨(g.cell (p := ⟨br, 2, none⟩) zr).trans m, range_of_row ((g.hasRow z).trans i1) ((g.rowAt z).trans i2), (g.hasRow z).trans i3, (g.rowAt z).trans i4⟩
theorem keepTurn {u v : World} {br bm b : Nat} {d : Dfn} (t : u.mapTurned v bm) (h : KeepsRow br bm b d u) : KeepsRow br bm b d v := by
  obtain ⟨h1, h2, h3, h4⟩ := h
  have ht := turn_cell t
  obtain ⟨y, hy⟩ := Option.isSome_iff_exists.1 (hasRow_iff.1 h3 0 (by decide))
  rw [Addr.add_lit] at hy
  have hb := ht _ _ _ hy
  have hc : ∀ k, v.cell? ⟨b, k, none⟩ = u.cell? ⟨b, k, none⟩ := fun k => World.cell?_of_block (w := u) hb
  have hc' : ∀ i, i < 54 → v.cell? ((⟨b, 0, none⟩ : Addr).add i) = u.cell? ((⟨b, 0, none⟩ : Addr).add i) := fun i _ => by rw [Addr.add_lit]; exact hc _
  exact ⟨(World.cell?_of_block (w := u) (ht _ _ _ h1)).trans h1, fun j x hx => (hc _).trans (h2 j x hx), (hasRow_congr hc').trans h3, (rowAt_congr hc').trans h4⟩
theorem addDone (n br bm : Nat) (d : Dfn) (l : List Aut) (ents : List (Dfn × List Aut)) (w w4 w5 : World) (v : Value) {e : Ending} (he : e = .returned (.int .i64 0)) (hr : Reg w n br bm ents) (hg : Gr w w4) (hD : ∃ D', Defs w5 bm (ents.length + 1) D' (ents ++ [(withMods d v, l)])) (ht : w4.mapTurned w5 bm) (hacc : (accOk d l && !((ents.map vis).any fun v => v.1 == d.id)) = true) : AddPost n br bm d l ents w e w5 := by
  obtain ⟨D', hD'⟩ := hD
  have hgr := ht.grown
  refine ⟨0, ents ++ [(withMods d v, l)], he, ⟨(hr.1.keepC hg.keepsC).keepC (turn_keepsC ht), D', by rw [List.length_append]; exact hD'⟩, ⟨hgr.os.trans hg.os, hgr.tape.trans hg.tape, hgr.output.trans hg.output, Nat.le_trans hg.size hgr.size, fun k hk hne => (hgr.block k (Nat.lt_of_lt_of_le hk hg.size) hne).trans (hg.block hk)⟩, ?_⟩
  unfold addV
  rw [hacc, List.map_append]
  rfl
theorem err0_name {d : Dfn} {l : List Aut} (h : dfnErr d l = 0) : d.group.size ≤ 80 ∧ l.length ≤ 8 := by
  unfold dfnErr at h
  split at h
  · contradiction
  · rename_i hn
    have hn0 : nameErr d.group = 0 := by simpa using hn
    refine ⟨?_, ?_⟩
    · unfold nameErr at hn0
      split at hn0
      · cases hn0
      · omega
    · split at h
      · cases h
      · split at h
        · cases h
        · split at h
          · cases h
          · omega
theorem any_vis (ents : List (Dfn × List Aut)) (x : Id) {w : World} {bm n : Nat} {D : DataW Value} (h : Defs w bm n D ents) : Maps.has D (kl x) = (ents.map vis).any fun v => v.1 == x := by
  rw [Bool.eq_iff_iff, h.has, List.any_eq_true]
  constructor
  · rintro ⟨e, he, hk⟩; exact ⟨vis e, List.mem_map_of_mem he, by simp [vis, kl_inj hk]⟩
  · rintro ⟨v, hv, hx⟩
    obtain ⟨e, he, rfl⟩ := List.mem_map.1 hv
    exact ⟨e, he, by rw [← (by simpa [vis] using hx : e.1.id = x)]⟩
set_option maxRecDepth 100000 in
set_option maxHeartbeats 4000000 in
theorem addC (n br bm : Nat) (d : Dfn) (l : List Aut) (ents : List (Dfn × List Aut)) (w : World) (hE : Env w) (hv : AutsAt w d.mods l) (hr : Reg w n br bm ents) (h12 : ents.length ≤ 1000) :
    Calls Tryz.prog 22 #[.pointer (some ⟨br, 0, none⟩), .agg (dfnC d).toArray] w (AddPost n br bm d l ents w) := by
  have g0 := (Gr.refl w).alloc (.cells (dfnC d).toArray 49)
  have HC := Lib.hid (dfnCheck d l _ (hE.gr g0) (hv.gr g0))
  have B0 := Lib.hid (heap_alloc_new w (.cells (dfnC d).toArray 49))
  have G0 := Lib.hid g0
  have HR := Lib.hid hr
  have HV := Lib.hid hv
  clear g0 hE hv hr
  by_cases he : dfnErr d l = 0
  · obtain ⟨hsz, hl8⟩ := err0_name he
    rw [he] at HC
    cases ha : isAuthB d.group d.author with
    | false =>
      have hacc : Hid (accOk d l = false) := by show _ = _; unfold accOk; rw [ha, Bool.and_false]
      go_enter Tryz.func22, Tryz.ntmps22
      go_wp2_with fail
      refine HC.out.mono ?_
      rintro e w1 ⟨rfl, hg1⟩
      have b1 := (hg1.block (b := w.heap.size) (by simp)).trans B0.out
      have g1 := G0.out.trans hg1
      have c1 := (cell_block b1 48).trans (dfn_group d)
      have q1 := hasRow_block b1 32 16 (by rw [dfnC_length]; decide)
      have q2 := (rowAt_block b1 32 16 (by rw [dfnC_length]; decide)).trans (dfn_author d)
      have HA := Lib.hid (isAuthC n br bm d.group d.author w1 (HR.out.gr g1).1 (by omega))
      rw [ha] at HA
      have B1 := Lib.hid b1; have G1 := Lib.hid g1
      clear b1 g1 hg1
      go_wp2_with fail
      refine HA.out.mono ?_
      rintro e w2 ⟨rfl, hg2⟩
      have HG2 := Lib.hid (G1.out.trans hg2)
      clear hg2
      go_wp2_with fail
      go_ret
      exact AddPost.same _ HR.out HG2.out (by rw [hacc.out, Bool.false_and])
    | true =>
      have hacc : Hid (accOk d l = true) := by show _ = _; unfold accOk; rw [he, ha]; rfl
      go_enter Tryz.func22, Tryz.ntmps22
      go_wp2_with fail
      refine HC.out.mono ?_
      rintro e w1 ⟨rfl, hg1⟩
      have b1 := (hg1.block (b := w.heap.size) (by simp)).trans B0.out
      have g1 := G0.out.trans hg1
      have c1 := (cell_block b1 48).trans (dfn_group d)
      have q1 := hasRow_block b1 32 16 (by rw [dfnC_length]; decide)
      have q2 := (rowAt_block b1 32 16 (by rw [dfnC_length]; decide)).trans (dfn_author d)
      have HA := Lib.hid (isAuthC n br bm d.group d.author w1 (HR.out.gr g1).1 (by omega))
      rw [ha] at HA
      have B1 := Lib.hid b1; have G1 := Lib.hid g1
      clear b1 g1 hg1
      go_wp2_with fail
      refine HA.out.mono ?_
      rintro e w2 ⟨rfl, hg2⟩
      have z1 := (Array.getElem?_eq_some_iff.1 B1.out).1
      have b2 := (hg2.block z1).trans B1.out
      have g2 := G1.out.trans hg2
      obtain ⟨hrm, D, hD⟩ := HR.out.gr g2
      obtain ⟨dx, hdx, hlook⟩ := lookAll hD d.id
      have ax := Lib.hid (any_vis ents d.id hD)
      have m2 : w2.cell? ⟨br, 2, none⟩ = some (.map (some bm)) := by obtain ⟨_, _, _, _, _, _, _, _, h1, _⟩ := hrm; exact (cell_of_row w2 br 2 _ _ _ h1).trans rfl
      have i1 := hasRow_block b2 0 32 (by rw [dfnC_length]; decide)
      have i2 := (rowAt_block b2 0 32 (by rw [dfnC_length]; decide)).trans (dfn_id d)
      have z2 : w.heap.size < w2.heap.size := (Array.getElem?_eq_some_iff.1 b2).1
      have zr : br < w2.heap.size := World.block_lt_of_cell? w2 _ m2
      have B2 := Lib.hid b2; have G2 := Lib.hid g2; have HD := Lib.hid hD; have HRM := Lib.hid hrm
      have hl1 := hlook w2.drew (Gr.refl w2).drew
      have hl2 := fun o => hlook (w2.alloc o).drew ((Gr.refl w2).alloc o).drew
      have ho : oneB (dfnC dx) = true := by simp [dfnC, oneB_append, oneB_cons, oneB_bC, oneB_nil, Value.oneCell'] at hdx ⊢; exact hdx
      clear b2 g2 hg2 hD hrm hlook c1 q1 q2
      cases hh : Maps.has D (kl d.id) with
      | true =>
        rw [hh] at hl1; simp only [hh] at hl2
        go_wp2_with fail
        go_big_region
        go_wp2_with fail
        go_ret
        exact AddPost.same _ HR.out ((G2.out.alloc _).drew) (by rw [← ax.out, hh, Bool.not_true, Bool.and_false])
      | false =>
        rw [hh] at hl1; simp only [hh] at hl2
        go_wp2_with fail
        go_big_region
        have g3 := ((Gr.refl w2).alloc (.cells (dfnC dx).toArray 49)).drew
        have D3 := Lib.hid (HD.out.gr g3)
        have hlen := D3.out.own.len Tryz.underlying111 3
        rw [HD.out.size] at hlen
        have hle : ((4096 : Int) ≤ (ents.length : Int)) = False := by simp; omega
        have m3 := (g3.cell (p := ⟨br, 2, none⟩) zr).trans m2
        have b3 := (g3.block z2).trans B2.out
        have i1 := hasRow_block b3 0 32 (by rw [dfnC_length]; decide)
        have i2 := (rowAt_block b3 0 32 (by rw [dfnC_length]; decide)).trans (dfn_id d)
        have i3 := hasRow_block b3 0 54 (by rw [dfnC_length]; decide)
        have i4 := (rowAt_block b3 0 54 (by rw [dfnC_length]; decide)).trans (dfn_whole d)
        have I3 := Lib.hid i3; have I4 := Lib.hid i4
        have G3 := Lib.hid (G2.out.trans g3)
        have HCL := Lib.hid (cloneD d l _ (HV.out.gr (G2.out.trans g3).drew) (by omega))
        clear b3 g3
        generalize (w2.alloc (.cells (dfnC dx).toArray 49)).drew = w3 at *
        go_wp2_with fail
        have z3 : w.heap.size < w3.heap.size := hasRow_lt i1 (by decide)
        have zr3 : br < w3.heap.size := World.block_lt_of_cell? w3 _ m3
        have HH := Lib.hid hh
        clear hl1 hl2 hlen i3 i4 hh
        have i3 : hasRow w3 ⟨w.heap.size, 0, none⟩ 54 = true := I3.out
        have i4 : rowAt w3 ⟨w.heap.size, 0, none⟩ 54 = dfnC d := I4.out
        have hu23 := Tryz.underlying23
        have hi23 : (Tryz.prog.info? 23).map (·.size) = some (bC d.id).length := by rw [bC_length]; kernel_rfl
        have rg3 : w3.rangeAt w.heap.size 0 (bC d.id) := range_of_row i1 i2
        go_region_held3 (fun u => u.cell? ⟨br, 2, none⟩ = some (.map (some bm)) ∧ u.rangeAt w.heap.size 0 (bC d.id) ∧ hasRow u ⟨w.heap.size, 0, none⟩ 54 = true ∧ rowAt u ⟨w.heap.size, 0, none⟩ 54 = dfnC d) (first | exact ⟨m3, rg3, i3, i4⟩ | exact hkeep4 | exact hkeep5) (first | (go_at_call 61; refine HCL.out.mono ?_; rintro e w4 ⟨a', n', c', rfl, hau, hg4⟩; have g4 := (Gr.refl w3).drew.trans hg4; obtain ⟨w5, hst, hD5, ht5⟩ := storeAll D3.out (by omega) g4 (withMods d (.slice a' n' c')) l HH.out hau (by omega); have hst' : (Instr.mapUpdate 111 (.map (some bm)) (.agg (bC d.id).toArray) (.agg (dfnC (withMods d (.slice a' n' c'))).toArray)).run Tryz.prog w4 = .ok () w5 := hst; have hkeep4 := keepRow g4 zr3 z3 m3 i1 i2 i3 i4; have hkeep5 := keepTurn ht5 hkeep4; have G4 := Lib.hid g4; have D5 := Lib.hid hD5; have T5 := Lib.hid ht5; clear hst hD5 ht5 hg4 g4 hau))
        go_wp2_with fail
        go_ret
        exact addDone n br bm d l ents w w4 w5 _ rfl HR.out (G3.out.trans G4.out) D5.out T5.out (by rw [hacc.out, ← ax.out, HH.out]; rfl)
  · have hacc : Hid (accOk d l = false) := by show _ = _; unfold accOk; simp [he]
    have he' : (dfnErr d l == 0) = false := by simpa using he
    go_enter Tryz.func22, Tryz.ntmps22
    go_wp2_with fail
    refine HC.out.mono ?_
    rintro e w1 ⟨rfl, hg1⟩
    have HG1 := Lib.hid (G0.out.trans hg1)
    clear hg1
    generalize dfnErr d l = er at *
    go_wp2_with fail
    go_ret
    exact AddPost.same _ HR.out HG1.out (by rw [hacc.out, Bool.false_and])
end Go.Proofs.YtcjacgjeiljfgaaGreatDoor

namespace Go.Proofs.YtcjacgjeiljfgaaGreatDoor
open Go.RowKit

/-- A slice of definitions with their moderators. -/
def DefsAt (w : World) (v : Value) (ds : List (Dfn × List Aut)) : Prop := SlAt w v 54 (ds.map fun e => dfnC e.1) ∧ ∀ e ∈ ds, AutsAt w e.1.mods e.2
theorem DefsAt.gr {w w' : World} {v : Value} {ds : List (Dfn × List Aut)} (h : DefsAt w v ds) (hg : Gr w w') : DefsAt w' v ds := ⟨h.1.gr hg, fun e he => (h.2 e he).gr hg⟩
def madeV (ds : List (Dfn × List Aut)) (k : Nat) : List Vis := (ds.take k).foldl (fun L e => addV L e.1 e.2) []
theorem madeV_succ (ds : List (Dfn × List Aut)) (k : Nat) (h : k < ds.length) : madeV ds (k + 1) = addV (madeV ds k) ds[k].1 ds[k].2 := by
  unfold madeV; rw [List.take_succ_eq_append_getElem h, List.foldl_append]; rfl
theorem addV_len (L : List Vis) (d : Dfn) (l : List Aut) : (addV L d l).length ≤ L.length + 1 := by
  unfold addV; split <;> simp
theorem madeV_len (ds : List (Dfn × List Aut)) : ∀ k, (madeV ds k).length ≤ k
  | 0 => by simp [madeV]
  | k + 1 => by
    by_cases h : k < ds.length
    · rw [madeV_succ ds k h]; have := addV_len (madeV ds k) ds[k].1 ds[k].2; have := madeV_len ds k; omega
    · have e : madeV ds (k + 1) = madeV ds k := by unfold madeV; rw [List.take_of_length_le (by omega), List.take_of_length_le (by omega)]
      rw [e]; have := madeV_len ds k; omega
theorem emptyDefs {w : World} {bm : Nat} (h : w.heap[bm]? = some (.map #[] 0)) : Defs w bm 0 (.map []) [] := by
  obtain ⟨es, clock, hb, F, _, _⟩ := World.ownsMap_made w Tryz.prog 23 dR
  rw [heap_alloc_new w _] at hb
  injection hb with hb
  injection hb with h1 h2
  subst h1; subst h2
  refine ⟨⟨#[], 0, h, F, Nat.le_refl _, rfl⟩, fun k => ?_, by simp, rfl, by simp, by simp⟩
  simp [Maps.has]
def MadePost (ds : List (Dfn × List Aut)) (w : World) (e : Ending) (w' : World) : Prop := ∃ br ents, e = .returned (ptrV (some br)) ∧ RegAt w' (some br) ents ∧ ents.map vis = madeV ds 12 ∧ Gr w w'
set_option maxRecDepth 100000 in
set_option maxHeartbeats 4000000 in
theorem madeC (ds : List (Dfn × List Aut)) (v : Value) (w : World) (hE : Env w) (hv : DefsAt w v ds) (_hl : ds.length ≤ 9223372036854775807) :
    Calls Tryz.prog 8 #[v] w (MadePost ds w) := by
  have HV := Lib.hid hv
  obtain ⟨⟨a, cap, rfl, hc, hj⟩, hm⟩ := hv
  have e1 : (ds.map fun e => dfnC e.1).length = ds.length := by simp
  rw [e1] at hc ⊢
  have HJ := Lib.hid hj; have HE := Lib.hid hE; have HM := Lib.hid hm
  clear hj hm hE e1
  go_enter Tryz.func8, Tryz.ntmps8
  go_wp2_with fail
  refine (newC w.heap.size _ (HE.out.gr ((Gr.refl w).alloc _)) (heap_alloc_new w _)).mono ?_
  rintro e w1 ⟨br, bm, rfl, hrm, hbm, hmap, hg1⟩
  have hG1 := Lib.hid (((Gr.refl w).alloc _).trans hg1)
  simp at hbm
  have R1 : Hid (Reg w1 _ br bm []) := ⟨hrm, .map [], emptyDefs hmap⟩
  have hbm' : w.heap.size ≤ bm := by omega
  clear hrm hmap hg1
  go_wp2_with fail
  go_loopw [6, 15, 16, 17, 18, 19, 20, 21, 22, 23, 24, 25, 26, 27, 28, 29, 30] (fun i _ _ _ _ _ _ _ _ _ _ _ _ _ _ _ _ wr => ∃ (k : Nat) (ents : List (Dfn × List Aut)), k ≤ ds.length ∧ k ≤ 12 ∧ i = .int .i64 k ∧ Hid (Gr w wr) ∧ Hid (Reg wr (w.heap.size + 1) br bm ents) ∧ Hid (ents.map vis = madeV ds k)) (fun i _ _ _ _ _ _ _ _ _ _ _ _ _ _ _ _ _ => ds.length - (intOf i).toNat)
  case atStart => exact ⟨0, [], Nat.zero_le _, Nat.zero_le _, rfl, hG1.out, by have := R1.out; simp at this; exact this, rfl⟩
  case round =>
    obtain ⟨k, ents, hk, hk12, rfl, hG, hR, hV⟩ := hrel
    have hle : ents.length ≤ 12 := by have h1 := congrArg List.length hV.out; rw [List.length_map] at h1; have := madeV_len ds k; omega
    by_cases hlt : k < ds.length
    · by_cases h12 : k < 12
      · obtain ⟨b, o, rfl, hb, q1, q2⟩ := HJ.out k (by simpa using hlt)
        have u1 := (hG.out.hasRow hb).trans q1
        have u2 := (hG.out.rowAt hb).trans q2
        rw [List.getElem_map] at u2
        have HS := Lib.hid (madeV_succ ds k hlt)
        have HA := Lib.hid (addC _ br bm ds[k].1 ds[k].2 ents wr (HE.out.gr hG.out) ((HM.out _ (List.getElem_mem hlt)).gr hG.out) hR.out (by omega))
        have hk1 : (k : Int) < (ds.length : Int) := by omega
        have hk2 : (0 : Int) ≤ (k : Int) := by omega
        have hk3 : (k : Int) < 12 := by omega
        clear q1 q2
        generalize ds[k].1 = d at *
        generalize ds[k].2 = l at *
        go_wp2_with fail
        refine HA.out.mono ?_
        rintro e w2 ⟨r, ents', rfl, hR', hg2, hV'⟩
        have G2 := Lib.hid (hG.out.grown hg2 (fun k' hk' => by cases hk'; exact hbm'))
        have R2 := Lib.hid hR'
        have V2 : Hid (ents'.map vis = madeV ds (k + 1)) := by show _ = _; rw [HS.out, ← hV.out]; exact hV'
        clear hR' hg2 hV'
        go_wp2_with fail
        go_roundw
        case rel => exact ⟨k + 1, ents', by omega, by omega, by go_num, G2.out, R2.out, V2.out⟩
        case measure => simp [intOf]; omega
      · have hke : Hid (madeV ds k = madeV ds 12) := by show _ = _; rw [show k = 12 by omega]
        have hk3 : ¬ (k : Int) < 12 := by omega
        have hk1 : (k : Int) < (ds.length : Int) := by omega
        go_wp2_with fail
        go_ret
        exact ⟨br, ents, rfl, hR.out.at hle, hV.out.trans hke.out, hG.out⟩
    · have hke : Hid (madeV ds k = madeV ds 12) := by show _ = _; unfold madeV; rw [List.take_of_length_le (by omega), List.take_of_length_le (by omega)]
      have hk1 : ¬ (k : Int) < (ds.length : Int) := by omega
      go_wp2_with fail
      go_ret
      exact ⟨br, ents, rfl, hR.out.at hle, hV.out.trans hke.out, hG.out⟩
end Go.Proofs.YtcjacgjeiljfgaaGreatDoor

namespace Go.Proofs.YtcjacgjeiljfgaaGreatDoor
open Go.RowKit

def grpLen (x : Rw) : Nat := match x.groups with | .slice _ n _ => n | _ => 0
def smallBL (x : Rw) : Bool := decide (grpLen x ≤ 20)
def fewB (rows : List Rw) (m : Nat) : Bool := rows.all smallBL && (decide (rows.length ≤ 30) && decide (m ≤ 30))
theorem small_succ (rows : List Rw) (k : Nat) (h : k < rows.length) : (rows.take (k + 1)).all smallBL = ((rows.take k).all smallBL && smallBL rows[k]) := by
  rw [List.take_succ_eq_append_getElem h, List.all_append]; simp
theorem one_row {w : World} {b n : Nat} {cs : List Value} {t : TypeId} (h : w.heap[b]? = some (.cells cs.toArray t (0, 0))) (hn : cs.length = n) : SlAt w (.slice (some ⟨b, 0, none⟩) 1 1) n [cs] := by
  refine ⟨_, 1, rfl, Nat.le_refl _, fun j hj => ⟨b, 0, rfl, (Array.getElem?_eq_some_iff.1 h).1, ?_, ?_⟩⟩
  · have : j = 0 := by simp at hj; exact hj
    subst this; rw [Nat.zero_mul]; exact hasRow_block h 0 n (by omega)
  · have : j = 0 := by simp at hj; exact hj
    subst this; rw [Nat.zero_mul]; exact (rowAt_block h 0 n (by omega)).trans (rowOf_all _ _ hn)
end Go.Proofs.YtcjacgjeiljfgaaGreatDoor

namespace Go.Proofs.YtcjacgjeiljfgaaGreatDoor
open Go.RowKit

theorem put_from (off : Nat) : ∀ (l pre mid post : List Value) (n : Nat), mid.length = l.length → pre.length = off + n →
    List.foldl (fun (cs : Array Value) (x : Value × Nat) => cs.setIfInBounds (off + x.2) x.1) (pre ++ mid ++ post).toArray (l.zipIdx n) = (pre ++ l ++ post).toArray
  | [], pre, mid, post, n, h, _ => by obtain rfl : mid = [] := List.length_eq_zero_iff.1 h; rfl
  | v :: l, pre, mid, post, n, h, hn => by
    obtain ⟨p, mid', rfl⟩ : ∃ p q, mid = p :: q := by cases mid with | nil => simp at h | cons p q => exact ⟨p, q, rfl⟩
    have e : (pre ++ p :: mid' ++ post).toArray.setIfInBounds (off + n) v = ((pre ++ [v]) ++ mid' ++ post).toArray := by
      rw [← hn]; simp
    rw [List.zipIdx_cons, List.foldl_cons, e]
    have := put_from off l (pre ++ [v]) mid' post (n + 1) (by simpa using h) (by simp [hn]; omega)
    simp only [List.append_assoc, List.cons_append, List.nil_append] at this ⊢
    exact this
theorem fill_step (place : Nat → Option (Nat × Nat)) (i : Nat) (v : Value) (l pre mid post : List Value) (rest : List (Nat × Value)) (hv : v.cells = l.toArray) (hm : mid.length = l.length) (hp : place i = some (pre.length, l.length)) :
    Instr.fill place (pre ++ mid ++ post).toArray ((i, v) :: rest) = Instr.fill place (pre ++ l ++ post).toArray rest := by
  have hz := put_from pre.length l pre mid post 0 hm rfl
  rw [Instr.fill, hp]
  simp only [hv]
  rw [if_neg (by simp; omega)]
  congr 1
  rw [← hz, ← Array.foldl_toList]
  simp
theorem placesCanc (w : World) : ∃ fs, Tryz.prog.underlying 40 = some (.struct fs) ∧ (fs.mapM (m := Sem) fun f => do pure (f.offset, ← Go.sizeOf f.type)).run Tryz.prog w = .ok #[(0, 32), (32, 16), (48, 1), (49, 32)] w := ⟨_, Tryz.underlying40, by kernel_rfl⟩
theorem zeroCanc (w : World) : (zeroValue 40).run Tryz.prog w = .ok (.agg (List.replicate 32 (Value.int .u8 0) ++ (List.replicate 16 (Value.int .u8 0) ++ ([Value.int .i64 0] ++ List.replicate 32 (Value.int .u8 0)))).toArray) w := by kernel_rfl
theorem bldCanc (i : Id) (a : Aut) (d : Int) (t : Id) (w : World) : (Instr.build 40 #[(0, .agg (bC i).toArray), (1, .agg (bC a).toArray), (2, .int .i64 d), (3, .agg (bC t).toArray)]).run Tryz.prog w = .ok (.agg (cancC ⟨i, a, d, t⟩).toArray) w := by
  obtain ⟨fs, hu, hp⟩ := placesCanc w
  have hc : cancC ⟨i, a, d, t⟩ = bC i ++ bC a ++ [.int .i64 d] ++ bC t := by simp [cancC]
  have s1 := fill_step (fun k => #[(0, 32), (32, 16), (48, 1), (49, 32)][k]?) 0 (.agg (bC i).toArray) (bC i) [] (List.replicate 32 (Value.int .u8 0)) (List.replicate 16 (Value.int .u8 0) ++ ([Value.int .i64 0] ++ List.replicate 32 (Value.int .u8 0))) [(1, .agg (bC a).toArray), (2, .int .i64 d), (3, .agg (bC t).toArray)] rfl (by rw [bC_length]; rfl) (by rw [bC_length]; rfl)
  have s2 := fill_step (fun k => #[(0, 32), (32, 16), (48, 1), (49, 32)][k]?) 1 (.agg (bC a).toArray) (bC a) (bC i) (List.replicate 16 (Value.int .u8 0)) ([Value.int .i64 0] ++ List.replicate 32 (Value.int .u8 0)) [(2, .int .i64 d), (3, .agg (bC t).toArray)] rfl (by rw [bC_length]; rfl) (by rw [bC_length, bC_length]; rfl)
  have s3 := fill_step (fun k => #[(0, 32), (32, 16), (48, 1), (49, 32)][k]?) 2 (.int .i64 d) [.int .i64 d] (bC i ++ bC a) [Value.int .i64 0] (List.replicate 32 (Value.int .u8 0)) [(3, .agg (bC t).toArray)] rfl rfl (by rw [List.length_append, bC_length, bC_length]; rfl)
  have s4 := fill_step (fun k => #[(0, 32), (32, 16), (48, 1), (49, 32)][k]?) 3 (.agg (bC t).toArray) (bC t) (bC i ++ bC a ++ [.int .i64 d]) (List.replicate 32 (Value.int .u8 0)) [] [] rfl (by rw [bC_length]; rfl) (by rw [List.length_append, List.length_append, bC_length, bC_length, bC_length]; rfl)
  simp only [List.append_assoc, List.nil_append, List.append_nil] at s1 s2 s3 s4 hc
  unfold Instr.build
  simp only [Sem.run_bind, zeroCanc, Result.andThen_ok, run_underlying hu, hp, Value.cells]
  rw [s1, s2, s3, s4, Instr.fill, hc]
  rfl

theorem placesRw (w : World) : ∃ fs, Tryz.prog.underlying 52 = some (.struct fs) ∧ (fs.mapM (m := Sem) fun f => do pure (f.offset, ← Go.sizeOf f.type)).run Tryz.prog w = .ok #[(0, 32), (32, 16), (48, 1), (49, 1), (50, 1), (51, 32)] w := ⟨_, Tryz.underlying52, by kernel_rfl⟩
theorem zeroRw (w : World) : (zeroValue 52).run Tryz.prog w = .ok (.agg (List.replicate 32 (Value.int .u8 0) ++ (List.replicate 16 (Value.int .u8 0) ++ ([Value.int .i64 0] ++ ([Value.slice none 0 0] ++ (Value.slice none 0 0 :: List.replicate 32 (Value.int .u8 0)))))).toArray) w := by kernel_rfl
theorem zId_list : bC zeroId = List.replicate 32 (Value.int .u8 0) := by kernel_rfl
theorem bldRw (i : Id) (a : Aut) (d : Int) (g : Option Addr) (n c : Nat) (w : World) : (Instr.build 52 #[(0, .agg (bC i).toArray), (1, .agg (bC a).toArray), (2, .int .i64 d), (3, .slice g n c)]).run Tryz.prog w = .ok (.agg (rwC ⟨i, a, d, .slice g n c, .slice none 0 0, zeroId⟩).toArray) w := by
  obtain ⟨fs, hu, hp⟩ := placesRw w
  have hc : rwC ⟨i, a, d, .slice g n c, .slice none 0 0, zeroId⟩ = bC i ++ bC a ++ [.int .i64 d] ++ [.slice g n c] ++ (Value.slice none 0 0 :: List.replicate 32 (Value.int .u8 0)) := by simp [rwC, zId_list]
  have s1 := fill_step (fun k => #[(0, 32), (32, 16), (48, 1), (49, 1), (50, 1), (51, 32)][k]?) 0 (.agg (bC i).toArray) (bC i) [] (List.replicate 32 (Value.int .u8 0)) (List.replicate 16 (Value.int .u8 0) ++ ([Value.int .i64 0] ++ ([Value.slice none 0 0] ++ (Value.slice none 0 0 :: List.replicate 32 (Value.int .u8 0))))) [(1, .agg (bC a).toArray), (2, .int .i64 d), (3, .slice g n c)] rfl (by rw [bC_length]; rfl) (by rw [bC_length]; rfl)
  have s2 := fill_step (fun k => #[(0, 32), (32, 16), (48, 1), (49, 1), (50, 1), (51, 32)][k]?) 1 (.agg (bC a).toArray) (bC a) (bC i) (List.replicate 16 (Value.int .u8 0)) ([Value.int .i64 0] ++ ([Value.slice none 0 0] ++ (Value.slice none 0 0 :: List.replicate 32 (Value.int .u8 0)))) [(2, .int .i64 d), (3, .slice g n c)] rfl (by rw [bC_length]; rfl) (by rw [bC_length, bC_length]; rfl)
  have s3 := fill_step (fun k => #[(0, 32), (32, 16), (48, 1), (49, 1), (50, 1), (51, 32)][k]?) 2 (.int .i64 d) [.int .i64 d] (bC i ++ bC a) [Value.int .i64 0] ([Value.slice none 0 0] ++ (Value.slice none 0 0 :: List.replicate 32 (Value.int .u8 0))) [(3, .slice g n c)] rfl rfl (by rw [List.length_append, bC_length, bC_length]; rfl)
  have s4 := fill_step (fun k => #[(0, 32), (32, 16), (48, 1), (49, 1), (50, 1), (51, 32)][k]?) 3 (.slice g n c) [.slice g n c] (bC i ++ bC a ++ [.int .i64 d]) [Value.slice none 0 0] (Value.slice none 0 0 :: List.replicate 32 (Value.int .u8 0)) [] rfl rfl (by rw [List.length_append, List.length_append, bC_length, bC_length]; rfl)
  simp only [List.append_assoc, List.nil_append] at s1 s2 s3 s4 hc
  unfold Instr.build
  simp only [Sem.run_bind, zeroRw, Result.andThen_ok, run_underlying hu, hp, Value.cells]
  rw [s1, s2, s3, s4, Instr.fill, hc]
  rfl
theorem split4 (Z : List Value) (h : Z.length = 324) : ∃ A B C D : List Value, Z = A ++ (B ++ (C ++ D)) ∧ A.length = 81 ∧ B.length = 81 ∧ C.length = 81 ∧ D.length = 81 :=
  ⟨Z.take 81, (Z.drop 81).take 81, ((Z.drop 81).drop 81).take 81, ((Z.drop 81).drop 81).drop 81, by rw [List.take_append_drop, List.take_append_drop, List.take_append_drop], by simp; omega, by simp; omega, by simp; omega, by simp; omega⟩
theorem fill4 (Z : Array Value) (h : Z.size = 324) (a b c d : Canc) : Instr.fill (fun i => some (i * 81, 81)) Z [(0, .agg (cancC a).toArray), (1, .agg (cancC b).toArray), (2, .agg (cancC c).toArray), (3, .agg (cancC d).toArray)] = some ([a, b, c, d].map cancC).flatten.toArray := by
  obtain ⟨A, B, C, D, hZ, h1, h2, h3, h4⟩ := split4 Z.toList (by simpa using h)
  obtain rfl : Z = (A ++ (B ++ (C ++ D))).toArray := by rw [← hZ]
  have s1 := fill_step (fun i => some (i * 81, 81)) 0 (.agg (cancC a).toArray) (cancC a) [] A (B ++ (C ++ D)) [(1, .agg (cancC b).toArray), (2, .agg (cancC c).toArray), (3, .agg (cancC d).toArray)] rfl (by rw [cancC_length]; exact h1) (by rw [cancC_length]; rfl)
  have s2 := fill_step (fun i => some (i * 81, 81)) 1 (.agg (cancC b).toArray) (cancC b) (cancC a) B (C ++ D) [(2, .agg (cancC c).toArray), (3, .agg (cancC d).toArray)] rfl (by rw [cancC_length]; exact h2) (by rw [cancC_length, cancC_length])
  have s3 := fill_step (fun i => some (i * 81, 81)) 2 (.agg (cancC c).toArray) (cancC c) (cancC a ++ cancC b) C D [(3, .agg (cancC d).toArray)] rfl (by rw [cancC_length]; exact h3) (by rw [List.length_append, cancC_length, cancC_length, cancC_length])
  have s4 := fill_step (fun i => some (i * 81, 81)) 3 (.agg (cancC d).toArray) (cancC d) (cancC a ++ cancC b ++ cancC c) D [] [] rfl (by rw [cancC_length]; exact h4) (by rw [List.length_append, List.length_append, cancC_length, cancC_length, cancC_length, cancC_length])
  simp only [List.append_assoc, List.nil_append, List.append_nil] at s1 s2 s3 s4
  rw [s1, s2, s3, s4, Instr.fill]
  simp
theorem bldSl4 (a b c d : Canc) (w : World) : (Instr.buildSlice 53 4 #[(0, .agg (cancC a).toArray), (1, .agg (cancC b).toArray), (2, .agg (cancC c).toArray), (3, .agg (cancC d).toArray)]).run Tryz.prog w =
    .ok (.slice (some ⟨w.heap.size, 0, none⟩) 4 4) (w.alloc (.cells ([a, b, c, d].map cancC).flatten.toArray 40)) := by
  have hsz : (Go.sizeOf 40).run Tryz.prog w = .ok 81 w := by rw [run_sizeOf' aggCanc, cellsCanc]
  unfold Instr.buildSlice
  simp only [Sem.run_bind, run_underlying Tryz.underlying53, Result.andThen_ok, hsz]
  rw [if_neg (by decide), if_neg (by decide)]
  simp only [Sem.run_bind, zeroCanc, Result.andThen_ok, Sem.run_pure]
  rw [fill4 _ (by simp)]
  rfl

theorem placesDfn (w : World) : ∃ fs, Tryz.prog.underlying 49 = some (.struct fs) ∧ (fs.mapM (m := Sem) fun f => do pure (f.offset, ← Go.sizeOf f.type)).run Tryz.prog w = .ok #[(0, 32), (32, 16), (48, 1), (49, 1), (50, 1), (51, 1), (52, 1), (53, 1)] w := ⟨_, Tryz.underlying49, by kernel_rfl⟩
theorem zeroDfn' (w : World) : (zeroValue 49).run Tryz.prog w = .ok (.agg ((List.replicate 32 (Value.int .u8 0) ++ (List.replicate 16 (Value.int .u8 0) ++ ([Value.string ⟨#[]⟩] ++ ([Value.int .i64 0] ++ ([Value.bool false] ++ ([Value.bool false] ++ ([Value.slice none 0 0] ++ ([Value.string ⟨#[]⟩]))))))))).toArray) w := by kernel_rfl
theorem bldDfn (i : Id) (a : Aut) (g : ByteArray) (v : Int) (m : Bool) (ad : Option Addr) (n c : Nat) (w : World) : (Instr.build 49 #[(0, (.agg (bC i).toArray)), (1, (.agg (bC a).toArray)), (2, (.string g)), (3, (.int .i64 v)), (5, (.bool m)), (6, (.slice ad n c))]).run Tryz.prog w = .ok (.agg (dfnC ⟨i, a, g, v, false, m, .slice ad n c, ⟨#[]⟩⟩).toArray) w := by
  obtain ⟨fs, hu, hp⟩ := placesDfn w
  have hc : dfnC ⟨i, a, g, v, false, m, .slice ad n c, ⟨#[]⟩⟩ = bC i ++ bC a ++ [.string g] ++ [.int .i64 v] ++ [.bool false] ++ [.bool m] ++ [.slice ad n c] ++ [.string ⟨#[]⟩] := by simp [dfnC]
  have s0 := fill_step (fun k => #[(0, 32), (32, 16), (48, 1), (49, 1), (50, 1), (51, 1), (52, 1), (53, 1)][k]?) 0 (.agg (bC i).toArray) (bC i) [] (List.replicate 32 (Value.int .u8 0)) (List.replicate 16 (Value.int .u8 0) ++ ([Value.string ⟨#[]⟩] ++ ([Value.int .i64 0] ++ ([Value.bool false] ++ ([Value.bool false] ++ ([Value.slice none 0 0] ++ ([Value.string ⟨#[]⟩]))))))) [(1, (.agg (bC a).toArray)), (2, (.string g)), (3, (.int .i64 v)), (5, (.bool m)), (6, (.slice ad n c))] rfl (by simp [bC_length]) (by simp [bC_length])
  have s1 := fill_step (fun k => #[(0, 32), (32, 16), (48, 1), (49, 1), (50, 1), (51, 1), (52, 1), (53, 1)][k]?) 1 (.agg (bC a).toArray) (bC a) ((bC i)) (List.replicate 16 (Value.int .u8 0)) ([Value.string ⟨#[]⟩] ++ ([Value.int .i64 0] ++ ([Value.bool false] ++ ([Value.bool false] ++ ([Value.slice none 0 0] ++ ([Value.string ⟨#[]⟩])))))) [(2, (.string g)), (3, (.int .i64 v)), (5, (.bool m)), (6, (.slice ad n c))] rfl (by simp [bC_length]) (by simp [bC_length])
  have s2 := fill_step (fun k => #[(0, 32), (32, 16), (48, 1), (49, 1), (50, 1), (51, 1), (52, 1), (53, 1)][k]?) 2 (.string g) [.string g] ((bC i) ++ (bC a)) [Value.string ⟨#[]⟩] ([Value.int .i64 0] ++ ([Value.bool false] ++ ([Value.bool false] ++ ([Value.slice none 0 0] ++ ([Value.string ⟨#[]⟩]))))) [(3, (.int .i64 v)), (5, (.bool m)), (6, (.slice ad n c))] rfl (by simp []) (by simp [bC_length])
  have s3 := fill_step (fun k => #[(0, 32), (32, 16), (48, 1), (49, 1), (50, 1), (51, 1), (52, 1), (53, 1)][k]?) 3 (.int .i64 v) [.int .i64 v] ((bC i) ++ (bC a) ++ [.string g]) [Value.int .i64 0] ([Value.bool false] ++ ([Value.bool false] ++ ([Value.slice none 0 0] ++ ([Value.string ⟨#[]⟩])))) [(5, (.bool m)), (6, (.slice ad n c))] rfl (by simp []) (by simp [bC_length])
  have s4 := fill_step (fun k => #[(0, 32), (32, 16), (48, 1), (49, 1), (50, 1), (51, 1), (52, 1), (53, 1)][k]?) 5 (.bool m) [.bool m] ((bC i) ++ (bC a) ++ [.string g] ++ [.int .i64 v] ++ [Value.bool false]) [Value.bool false] ([Value.slice none 0 0] ++ ([Value.string ⟨#[]⟩])) [(6, (.slice ad n c))] rfl (by simp []) (by simp [bC_length])
  have s5 := fill_step (fun k => #[(0, 32), (32, 16), (48, 1), (49, 1), (50, 1), (51, 1), (52, 1), (53, 1)][k]?) 6 (.slice ad n c) [.slice ad n c] ((bC i) ++ (bC a) ++ [.string g] ++ [.int .i64 v] ++ [Value.bool false] ++ [.bool m]) [Value.slice none 0 0] ([Value.string ⟨#[]⟩]) [] rfl (by simp []) (by simp [bC_length])
  simp only [List.append_assoc, List.nil_append] at s0 s1 s2 s3 s4 s5 hc
  unfold Instr.build
  simp only [Sem.run_bind, zeroDfn', Result.andThen_ok, run_underlying hu, hp, Value.cells]
  rw [s0, s1, s2, s3, s4, s5, Instr.fill, hc]
  rfl

def autK (k : UInt8) : Aut := ⟨#[k, 0, 0, 0, 0, 0, 0, 0, 0, 0, 0, 0, 0, 0, 0, 0], rfl⟩
def idK (k : UInt8) : Id := ⟨#[k, 0, 0, 0, 0, 0, 0, 0, 0, 0, 0, 0, 0, 0, 0, 0, 0, 0, 0, 0, 0, 0, 0, 0, 0, 0, 0, 0, 0, 0, 0, 0], rfl⟩
theorem bldAut1 (w : World) : (Instr.build 25 #[(0, .int .u8 1)]).run Tryz.prog w = .ok (.agg (bC (autK 1)).toArray) w := by kernel_rfl
theorem bldAut2 (w : World) : (Instr.build 25 #[(0, .int .u8 2)]).run Tryz.prog w = .ok (.agg (bC (autK 2)).toArray) w := by kernel_rfl
theorem bldAut3 (w : World) : (Instr.build 25 #[(0, .int .u8 3)]).run Tryz.prog w = .ok (.agg (bC (autK 3)).toArray) w := by kernel_rfl
theorem bldAut9 (w : World) : (Instr.build 25 #[(0, .int .u8 9)]).run Tryz.prog w = .ok (.agg (bC (autK 9)).toArray) w := by kernel_rfl
theorem bldId1 (w : World) : (Instr.build 23 #[(0, .int .u8 1)]).run Tryz.prog w = .ok (.agg (bC (idK 1)).toArray) w := by kernel_rfl
theorem bldId2 (w : World) : (Instr.build 23 #[(0, .int .u8 2)]).run Tryz.prog w = .ok (.agg (bC (idK 2)).toArray) w := by kernel_rfl
theorem bldId3 (w : World) : (Instr.build 23 #[(0, .int .u8 3)]).run Tryz.prog w = .ok (.agg (bC (idK 3)).toArray) w := by kernel_rfl
theorem bldId4 (w : World) : (Instr.build 23 #[(0, .int .u8 4)]).run Tryz.prog w = .ok (.agg (bC (idK 4)).toArray) w := by kernel_rfl
theorem bldId7 (w : World) : (Instr.build 23 #[(0, .int .u8 7)]).run Tryz.prog w = .ok (.agg (bC (idK 7)).toArray) w := by kernel_rfl
theorem bldId8 (w : World) : (Instr.build 23 #[(0, .int .u8 8)]).run Tryz.prog w = .ok (.agg (bC (idK 8)).toArray) w := by kernel_rfl
end Go.Proofs.YtcjacgjeiljfgaaGreatDoor

namespace Go.Proofs.YtcjacgjeiljfgaaGreatDoor
open Go.RowKit

def dfnK (v : Value) : Dfn := ⟨idK 8, autK 9, ⟨#[103, 46, 104]⟩, 1, false, true, v, ⟨#[]⟩⟩
def everV (L : List Vis) (g : ByteArray) (x : Aut) : Bool := L.any fun e => (e.2.1.toList == g.toList) && hasA e.2.2 x
theorem everB_vis (ents : List (Dfn × List Aut)) (g : ByteArray) (x : Aut) : everB ents g x = everV (ents.map vis) g x := by
  unfold everB everV; rw [List.any_map]; rfl
theorem nameK : nameErr ⟨#[103, 46, 104]⟩ = 0 := by decide +kernel
theorem matchK : matchB ⟨#[103, 46, 104]⟩ = true := by decide +kernel
theorem accK (v : Value) : accOk (dfnK v) [autK 2] = true := by
  unfold accOk isAuthB
  have h1 : dfnErr (dfnK v) [autK 2] = 0 := by
    unfold dfnErr
    rw [show (dfnK v).group = ⟨#[103, 46, 104]⟩ from rfl, nameK]
    rw [if_neg (by decide)]
    rw [show verB (dfnK v) = false from rfl, show remB (dfnK v) [autK 2] = false from rfl]
    rw [show dupTo [autK 2] [autK 2].length = false from by decide +kernel]
    rfl
  rw [h1, show (dfnK v).group = ⟨#[103, 46, 104]⟩ from rfl, matchK]
  show ((0 : Int) == 0 && (aut9 == autK 9 && true)) = true
  decide +kernel
theorem madeK (v : Value) : madeV [(dfnK v, [autK 2])] 12 = [(idK 8, ⟨#[103, 46, 104]⟩, [autK 2])] := by
  show addV [] (dfnK v) [autK 2] = _
  unfold addV; rw [accK]; rfl

def ghS : ByteArray := ⟨#[103, 46, 104]⟩
def rwK (v : Value) : Rw := ⟨idK 7, autK 1, 100, v, .slice none 0 0, zeroId⟩
def yK1 : Canc := ⟨idK 1, autK 1, 120, idK 7⟩
def yK2 : Canc := ⟨idK 2, autK 2, 110, idK 7⟩
def yK3 : Canc := ⟨idK 3, autK 3, 105, idK 7⟩
def yK4 : Canc := ⟨idK 4, autK 1, 99, idK 7⟩
def countsV (y : Canc) (x : Rw) (gs : List ByteArray) (L : List Vis) : Bool := (y.target == x.id) && decide (x.date ≤ y.date) && (y.author == x.author || gs.any fun g => everV L g y.author)
theorem countsB_vis (y : Canc) (x : Rw) (gs : List ByteArray) (ents : List (Dfn × List Aut)) : countsB y x gs ents = countsV y x gs (ents.map vis) := by
  unfold countsB countsV; simp only [everB_vis]
section
variable (v : Value) {ents : List (Dfn × List Aut)} (hv : ents.map vis = [(idK 8, ⟨#[103, 46, 104]⟩, [autK 2])])
include hv
theorem cK1 : countsB yK1 (rwK v) [ghS] ents = true := by rw [countsB_vis, hv]; show countsV yK1 (rwK (.slice none 0 0)) [ghS] _ = true; decide +kernel
theorem cK2 : countsB yK2 (rwK v) [ghS] ents = true := by rw [countsB_vis, hv]; show countsV yK2 (rwK (.slice none 0 0)) [ghS] _ = true; decide +kernel
theorem cK3 : countsB yK3 (rwK v) [ghS] ents = false := by rw [countsB_vis, hv]; show countsV yK3 (rwK (.slice none 0 0)) [ghS] _ = false; decide +kernel
theorem cK4 : countsB yK4 (rwK v) [ghS] ents = false := by rw [countsB_vis, hv]; show countsV yK4 (rwK (.slice none 0 0)) [ghS] _ = false; decide +kernel
theorem byK : byR (rwK v) [ghS] ents [yK1, yK2, yK3, yK4] = some (minFrom yK1 [yK2]) := by
  unfold byR filt
  rw [List.filter_cons, List.filter_cons, List.filter_cons, List.filter_cons, cK1 v hv, cK2 v hv, cK3 v hv, cK4 v hv]
  rfl
end
theorem minK : (minFrom yK1 [yK2]).id = idK 2 := by decide +kernel
theorem slAt_flat {w : World} {b size : Nat} {rows : List (List Value)} {t : TypeId} (h : w.heap[b]? = some (.cells rows.flatten.toArray t (0, 0))) (hr : ∀ r ∈ rows, r.length = size) : SlAt w (.slice (some ⟨b, 0, none⟩) rows.length rows.length) size rows := by
  refine ⟨_, _, rfl, Nat.le_refl _, fun j hj => ⟨b, 0, rfl, (Array.getElem?_eq_some_iff.1 h).1, ?_, ?_⟩⟩
  · rw [Nat.zero_add]; exact hasRow_block h _ _ (by rw [flat_len hr, ← Nat.succ_mul]; exact Nat.mul_le_mul_right _ (by omega))
  · rw [Nat.zero_add, rowAt_block h _ _ (by rw [flat_len hr, ← Nat.succ_mul]; exact Nat.mul_le_mul_right _ (by omega))]; exact flat_get hr j hj
end Go.Proofs.YtcjacgjeiljfgaaGreatDoor

namespace Go.Proofs.YtcjacgjeiljfgaaGreatDoor
open Go.RowKit

/-- A build, as one word. -/
def bdRL (P : Program) (t : TypeId) (ps : Array (Nat × Value)) (w : World) : Result Next := (do pure (Next.value (← Instr.build t ps)) : Sem Next).run P w
def bsRL (P : Program) (t : TypeId) (n : Nat) (ps : Array (Nat × Value)) (w : World) : Result Next := (do pure (Next.value (← Instr.buildSlice t n ps)) : Sem Next).run P w
@[local go_sem ↓] theorem exec_buildL {P : Program} {t : TypeId} (ρ : Operand → Value) (d : Option Tmp) (ps : Array (Nat × Operand)) (ty : TypeId) (p : String) (af : Array Edge) (g : Option (Nat × Bool)) (w : World) :
    Sem.run P (execOp ρ ⟨d, .build t ps, ty, p, af, g⟩) w = bdRL P t (ps.map fun x => (x.1, ρ x.2)) w := rfl
@[local go_sem ↓] theorem exec_bslL {P : Program} (ρ : Operand → Value) (d : Option Tmp) (ps : Array (Nat × Operand)) (ty : TypeId) (p : String) (af : Array Edge) (g : Option (Nat × Bool)) (w : World) :
    Sem.run P (execOp ρ ⟨d, .buildSlice 53 4 ps, ty, p, af, g⟩) w = bsRL P 53 4 (ps.map fun x => (x.1, ρ x.2)) w := rfl
theorem bd_ofL {P : Program} {t : TypeId} {ps : Array (Nat × Value)} {v : Value} {w w' : World} (h : (Instr.build t ps).run P w = .ok v w') : bdRL P t ps w = .ok (.value v) w' := by simp [bdRL, h]
theorem bs_ofL {P : Program} {t : TypeId} {n : Nat} {ps : Array (Nat × Value)} {v : Value} {w w' : World} (h : (Instr.buildSlice t n ps).run P w = .ok v w') : bsRL P t n ps w = .ok (.value v) w' := by simp [bsRL, h]
@[local go_sem] theorem kCancL (i : Id) (a : Aut) (d : Int) (t : Id) (w : World) : bdRL Tryz.prog 40 #[(0, .agg (bC i).toArray), (1, .agg (bC a).toArray), (2, .int .i64 d), (3, .agg (bC t).toArray)] w = .ok (.value (.agg (cancC ⟨i, a, d, t⟩).toArray)) w := bd_ofL (bldCanc i a d t w)
@[local go_sem] theorem kRw (i : Id) (a : Aut) (d : Int) (g : Option Addr) (n c : Nat) (w : World) : bdRL Tryz.prog 52 #[(0, .agg (bC i).toArray), (1, .agg (bC a).toArray), (2, .int .i64 d), (3, .slice g n c)] w = .ok (.value (.agg (rwC ⟨i, a, d, .slice g n c, .slice none 0 0, zeroId⟩).toArray)) w := bd_ofL (bldRw i a d g n c w)
@[local go_sem] theorem kDfn (i : Id) (a : Aut) (g : ByteArray) (v : Int) (m : Bool) (ad : Option Addr) (n c : Nat) (w : World) : bdRL Tryz.prog 49 #[(0, .agg (bC i).toArray), (1, .agg (bC a).toArray), (2, .string g), (3, .int .i64 v), (5, .bool m), (6, .slice ad n c)] w = .ok (.value (.agg (dfnC ⟨i, a, g, v, false, m, .slice ad n c, ⟨#[]⟩⟩).toArray)) w := bd_ofL (bldDfn i a g v m ad n c w)
@[local go_sem] theorem kSl4 (a b c d : Canc) (w : World) : bsRL Tryz.prog 53 4 #[(0, .agg (cancC a).toArray), (1, .agg (cancC b).toArray), (2, .agg (cancC c).toArray), (3, .agg (cancC d).toArray)] w = .ok (.value (.slice (some ⟨w.heap.size, 0, none⟩) 4 4)) (w.alloc (.cells ([a, b, c, d].map cancC).flatten.toArray 40)) := bs_ofL (bldSl4 a b c d w)
@[local go_sem] theorem kAut1 (w : World) : bdRL Tryz.prog 25 #[(0, .int .u8 1)] w = .ok (.value (.agg (bC (autK 1)).toArray)) w := bd_ofL (bldAut1 w)
@[local go_sem] theorem kAut2 (w : World) : bdRL Tryz.prog 25 #[(0, .int .u8 2)] w = .ok (.value (.agg (bC (autK 2)).toArray)) w := bd_ofL (bldAut2 w)
@[local go_sem] theorem kAut3 (w : World) : bdRL Tryz.prog 25 #[(0, .int .u8 3)] w = .ok (.value (.agg (bC (autK 3)).toArray)) w := bd_ofL (bldAut3 w)
@[local go_sem] theorem kAut9 (w : World) : bdRL Tryz.prog 25 #[(0, .int .u8 9)] w = .ok (.value (.agg (bC (autK 9)).toArray)) w := bd_ofL (bldAut9 w)
@[local go_sem] theorem kId1 (w : World) : bdRL Tryz.prog 23 #[(0, .int .u8 1)] w = .ok (.value (.agg (bC (idK 1)).toArray)) w := bd_ofL (bldId1 w)
@[local go_sem] theorem kId2 (w : World) : bdRL Tryz.prog 23 #[(0, .int .u8 2)] w = .ok (.value (.agg (bC (idK 2)).toArray)) w := bd_ofL (bldId2 w)
@[local go_sem] theorem kId3 (w : World) : bdRL Tryz.prog 23 #[(0, .int .u8 3)] w = .ok (.value (.agg (bC (idK 3)).toArray)) w := bd_ofL (bldId3 w)
@[local go_sem] theorem kId4 (w : World) : bdRL Tryz.prog 23 #[(0, .int .u8 4)] w = .ok (.value (.agg (bC (idK 4)).toArray)) w := bd_ofL (bldId4 w)
@[local go_sem] theorem kId7 (w : World) : bdRL Tryz.prog 23 #[(0, .int .u8 7)] w = .ok (.value (.agg (bC (idK 7)).toArray)) w := bd_ofL (bldId7 w)
@[local go_sem] theorem kId8 (w : World) : bdRL Tryz.prog 23 #[(0, .int .u8 8)] w = .ok (.value (.agg (bC (idK 8)).toArray)) w := bd_ofL (bldId8 w)
@[local go_sem] theorem setCells_past (o : Obj) (b : Nat) : ∀ (cs : List Value) (k : Nat) (w : World), b < w.heap.size → (w.alloc o).setCells b k cs = (w.setCells b k cs).alloc o
  | [], _, _, _ => rfl
  | v :: cs, k, w, h => by
    show World.setCells ((w.alloc o).setCell ⟨b, k, none⟩ v) b (k + 1) cs = World.alloc (World.setCells (w.setCell ⟨b, k, none⟩ v) b (k + 1) cs) o
    rw [World.setCell_alloc_past o b k v h]
    exact setCells_past o b cs (k + 1) _ (by simpa using h)
theorem five (w : World) (a b c d e : Obj) : let W := ((((w.alloc a).alloc b).alloc c).alloc d).alloc e
    W.heap[w.heap.size]? = some a ∧ W.heap[w.heap.size + 1]? = some b ∧ W.heap[w.heap.size + 1 + 1]? = some c ∧ W.heap[w.heap.size + 1 + 1 + 1]? = some d ∧ W.heap[w.heap.size + 1 + 1 + 1 + 1]? = some e ∧ W.heap.size = w.heap.size + 5 := by
  refine ⟨?_, ?_, ?_, ?_, ?_, by simp⟩
  · exact (((((Gr.refl (w.alloc a)).alloc b).alloc c).alloc d).alloc e |>.block (b := w.heap.size) (by simp)).trans (heap_alloc_new w a)
  · exact ((((Gr.refl ((w.alloc a).alloc b)).alloc c).alloc d).alloc e |>.block (b := w.heap.size + 1) (by simp)).trans (heap_new (w.alloc a) b _ (by simp))
  · exact (((Gr.refl (((w.alloc a).alloc b).alloc c)).alloc d).alloc e |>.block (b := w.heap.size + 1 + 1) (by simp)).trans (heap_new ((w.alloc a).alloc b) c _ (by simp))
  · exact ((Gr.refl ((((w.alloc a).alloc b).alloc c).alloc d)).alloc e |>.block (b := w.heap.size + 1 + 1 + 1) (by simp)).trans (heap_new (((w.alloc a).alloc b).alloc c) d _ (by simp))
  · exact heap_new ((((w.alloc a).alloc b).alloc c).alloc d) e _ (by simp)
set_option maxRecDepth 100000 in
set_option maxHeartbeats 1000000 in
theorem knownCL (w : World) (hE : Env w) : Calls Tryz.prog 4 #[] w fun e w' => e = .returned (.bool true) ∧ Gr w w' := by
  have h6 := five w (.cells (bC (autK 1)).toArray 25) (.cells (bC (autK 2)).toArray 25) (.cells (bC (autK 3)).toArray 25) (.cells (bC (autK 2)).toArray 25) (.cells (dfnC (dfnK (.slice (some ⟨w.heap.size + 1 + 1 + 1, 0, none⟩) 1 1))).toArray 49)
  have hg5 := (((((Gr.refl w).alloc (.cells (bC (autK 1)).toArray 25)).alloc (.cells (bC (autK 2)).toArray 25)).alloc (.cells (bC (autK 3)).toArray 25)).alloc (.cells (bC (autK 2)).toArray 25)).alloc (.cells (dfnC (dfnK (.slice (some ⟨w.heap.size + 1 + 1 + 1, 0, none⟩) 1 1))).toArray 49)
  obtain ⟨a1, a2, a3, a4, a5, a6⟩ := h6
  have hdef : DefsAt _ (.slice (some ⟨w.heap.size + 1 + 1 + 1 + 1, 0, none⟩) 1 1) [(dfnK (.slice (some ⟨w.heap.size + 1 + 1 + 1, 0, none⟩) 1 1), [autK 2])] := ⟨one_row a5 (dfnC_length _), by
    intro e he
    simp at he; subst he
    exact one_row a4 (bC_length _)⟩
  have HM := Lib.hid (madeC _ _ _ (hE.gr hg5) hdef (by simp))
  have A1 := Lib.hid a1; have A2 := Lib.hid a2; have A3 := Lib.hid a3; have A6 := Lib.hid a6; have HG5 := Lib.hid hg5
  clear a1 a2 a3 a4 a5 a6 hg5 hdef hE
  go_enter Tryz.func4, Tryz.ntmps4
  go_wp2_with fail
  refine HM.out.mono ?_
  rintro e w2 ⟨br, ents, rfl, hreg, hvis, hg2⟩
  have b1 := (hg2.block (by rw [A6.out]; omega)).trans A1.out
  have b2 := (hg2.block (by rw [A6.out]; omega)).trans A2.out
  have b3 := (hg2.block (by rw [A6.out]; omega)).trans A3.out
  have r1 := hasRow_block b1 0 16 (by rw [bC_length]; decide)
  have r2 := hasRow_block b2 0 16 (by rw [bC_length]; decide)
  have r3 := hasRow_block b3 0 16 (by rw [bC_length]; decide)
  have q1 := (rowAt_block b1 0 16 (by rw [bC_length]; decide)).trans (rowOf_all _ _ (bC_length _))
  have q2 := (rowAt_block b2 0 16 (by rw [bC_length]; decide)).trans (rowOf_all _ _ (bC_length _))
  have q3 := (rowAt_block b3 0 16 (by rw [bC_length]; decide)).trans (rowOf_all _ _ (bC_length _))
  have z3 : w.heap.size + 1 + 1 < w2.heap.size := (Array.getElem?_eq_some_iff.1 b3).1
  have z1 : w.heap.size < w2.heap.size := by omega
  have z2 : w.heap.size + 1 < w2.heap.size := by omega
  have y1 : w.heap.size < w2.heap.size + 1 := by omega
  have y2 : w.heap.size + 1 < w2.heap.size + 1 := by omega
  have y3 : w.heap.size + 1 + 1 < w2.heap.size + 1 := by omega
  have HR := Lib.hid hreg; have HVS := Lib.hid hvis; have HG2 := Lib.hid (HG5.out.trans hg2)
  clear b1 b2 b3 hreg hvis hg2
  unfold ptrV
  go_wp2_with fail
  have hv1 : ents.map vis = [(idK 8, ⟨#[103, 46, 104]⟩, [autK 2])] := HVS.out.trans (madeK _)
  refine (byC (rwK (.slice (some ⟨w2.heap.size, 0, none⟩) 1 1)) [ghS] [yK1, yK2, yK3, yK4] _ (some br) ents _ (HR.out.gr ((((Gr.refl w2).alloc _).alloc _).alloc _)) ((strsAt_new w2 [ghS] 1).gr (((Gr.refl _).alloc _).alloc _)) (by decide) (slAt_flat (heap3L w2 _ _ _) (map_cancC_len _)) (by decide) (by kernel_rfl)).mono ?_
  rintro e w5 ⟨he, hg5⟩
  rw [byK _ hv1, show byId (some (minFrom yK1 [yK2])) = idK 2 from minK, Option.isSome_some] at he
  subst he
  have hrl := (hg5.trans ((Gr.refl w5).alloc (.cells (bC (idK 2)).toArray 23)))
  have bx := (hrl.block (b := w2.heap.size + 1) (by simp)).trans ((((Gr.refl _).alloc _).block (b := w2.heap.size + 1) (by simp)).trans (heap_alloc2_new w2 _ _))
  have bl4 := (hrl.block (b := w2.heap.size + 1 + 1) (by simp)).trans (heap3L w2 _ _ _)
  have bi := heap_alloc_new w5 (.cells (bC (idK 2)).toArray 23)
  have HREG := Lib.hid ((HR.out.gr ((((Gr.refl w2).alloc _).alloc _).alloc _)).gr hrl)
  have HSTR := Lib.hid (((strsAt_new w2 [ghS] 1).gr (((Gr.refl _).alloc (.cells (rwC (rwK (.slice (some ⟨w2.heap.size, 0, none⟩) 1 1))).toArray 52)).alloc (.cells ([yK1, yK2, yK3, yK4].map cancC).flatten.toArray 40))).gr hrl)
  go_wp2_with fail
  have hrows := map_cancC_len [yK1, yK2, yK3, yK4]
  have hfl := flat_len hrows
  have G6 := Lib.hid ((((HG2.out.alloc _).alloc _).alloc _).trans hrl)
  clear hrl
  generalize w5.alloc (.cells (bC (idK 2)).toArray 23) = w6 at *
  have u1 := hasRow_block bi 0 32 (by rw [bC_length]; decide)
  have u2 := (rowAt_block bi 0 32 (by rw [bC_length]; decide)).trans (rowOf_all _ _ (bC_length _))
  have u3 := hasRow_block bx 0 83 (by rw [rwC_length]; decide)
  have u4 : rowAt w6 ⟨w2.heap.size + 1, 0, none⟩ 83 = rwC (rwK (.slice (some ⟨w2.heap.size, 0, none⟩) 1 1)) := (rowAt_block bx 0 83 (by rw [rwC_length]; decide)).trans (rw_whole _)
  have v1 := hasRow_block bl4 0 81 (by rw [hfl]; decide)
  have v2 : rowAt w6 ⟨w2.heap.size + 1 + 1, 0, none⟩ 81 = cancC yK1 := (rowAt_block bl4 0 81 (by rw [hfl]; decide)).trans (flat_get hrows 0 (by simp))
  have v3 := hasRow_block bl4 162 81 (by rw [hfl]; decide)
  have v4 : rowAt w6 ⟨w2.heap.size + 1 + 1, 162, none⟩ 81 = cancC yK3 := (rowAt_block bl4 162 81 (by rw [hfl]; decide)).trans (flat_get hrows 2 (by simp))
  have v5 := hasRow_block bl4 243 81 (by rw [hfl]; decide)
  have v6 : rowAt w6 ⟨w2.heap.size + 1 + 1, 243, none⟩ 81 = cancC yK4 := (rowAt_block bl4 243 81 (by rw [hfl]; decide)).trans (flat_get hrows 3 (by simp))
  have x1 : w5.heap.size < w6.heap.size := hasRow_lt u1 (by decide)
  have x2 : w2.heap.size + 1 < w6.heap.size := hasRow_lt u3 (by decide)
  have x3 : w2.heap.size + 1 + 1 < w6.heap.size := hasRow_lt v1 (by decide)
  have HC : Hid (∀ (y : Canc) (p : GD), Calls Tryz.prog 10 #[.agg (cancC y).toArray, .agg (rwC (rwK (.slice (some ⟨w2.heap.size, 0, none⟩) 1 1))).toArray, .pointer (some ⟨br, 0, none⟩)] (gw w6 p) fun e w'' => e = .returned (.bool (countsB y (rwK (.slice (some ⟨w2.heap.size, 0, none⟩) 1 1)) [ghS] ents)) ∧ ∃ q : GD, w'' = gw w6 q) := fun y p => gr_call (countsC y (rwK (.slice (some ⟨w2.heap.size, 0, none⟩) 1 1)) [ghS] (some br) ents _ (HREG.out.gr (gr_gw w6 _)) (HSTR.out.gr (gr_gw w6 _)) (by decide))
  have HC1 := Lib.hid (HC.out yK1); have HC3 := Lib.hid (HC.out yK3); have HC4 := Lib.hid (HC.out yK4)
  rw [cK1 _ hv1] at HC1; rw [cK3 _ hv1] at HC3; rw [cK4 _ hv1] at HC4
  clear bx bl4 bi hrows hfl HC HREG HSTR
  refine wp_region_grL (by kernel_rfl) (by kernel_rfl) ?_
  repeat (go_big_quiet_step (first | (go_at_call 10; with_reducible exact HC1.out _) | (go_at_call 10; with_reducible exact HC3.out _) | (go_at_call 10; with_reducible exact HC4.out _)))
  refine wpQuiet_nil ?_
  rintro _ ⟨p, rfl⟩
  have hp := Lib.hid (G6.out.trans (gr_gw w6 p))
  generalize gw w6 p = U at *
  go_wp2_with fail
  go_ret
  exact ⟨rfl, hp.out⟩
theorem knownOk : ∀ w, Env w → Calls Tryz.prog 4 #[] w fun e w' => e = .returned (.bool true) ∧ Gr w w' := knownCL
end Go.Proofs.YtcjacgjeiljfgaaGreatDoor

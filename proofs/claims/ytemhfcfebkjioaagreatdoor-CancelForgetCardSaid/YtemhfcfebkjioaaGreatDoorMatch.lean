/- The pattern of one star: what Match and Verdict answer. -/
import Derived.Test.YtemhfcfebkjioaaGreatDoorWild
namespace Go.Proofs.YtemhfcfebkjioaaGreatDoor
open Go.RowKit

def nameChars : ByteArray := ⟨#[43, 45, 46, 48, 49, 50, 51, 52, 53, 54, 55, 56, 57, 95, 97, 98, 99, 100, 101, 102, 103, 104, 105, 106, 107, 108, 109, 110, 111, 112, 113, 114, 115, 116, 117, 118, 119, 120, 121, 122]⟩
def standB (c : UInt8) : Bool := decide (0 ≤ Lib.indexByte nameChars.data.toList c)

set_option maxRecDepth 100000 in
set_option maxHeartbeats 1000000 in
theorem charsC (w : World) : Calls Tryz.prog 267 #[.agg #[]] w fun e w' => e = .returned (.string nameChars) ∧ w' = w.alloc (.cells #[] 224) := by
  go_enter Tryz.func267, Tryz.ntmps267
  go_wp2_with fail
  go_ret
  exact ⟨rfl, rfl⟩
set_option maxRecDepth 100000 in
set_option maxHeartbeats 1000000 in
theorem isStarC (w : World) : Calls Tryz.prog 192 #[starV] w fun e w' => e = .returned (.bool true) ∧ Gr w w' := by
  unfold starV
  have ht : ∀ w, (Instr.typeAssert (.iface 224 (.agg #[])) 265 224 true).run Tryz.prog w = .ok (.tuple #[.agg #[], .bool true]) w := fun w => by kernel_rfl
  go_enter Tryz.func192, Tryz.ntmps192
  go_wp2_with fail
  go_ret
  exact ⟨rfl, (Gr.refl w).alloc _⟩
set_option maxRecDepth 100000 in
set_option maxHeartbeats 1000000 in
theorem standsC (c : UInt8) (w : World) : Calls Tryz.prog 191 #[starV, .int .u8 (c.toNat : Int)] w fun e w' => e = .returned (.bool (standB c)) ∧ Gr w w' := by
  unfold starV
  have hm : ∀ w, (method 419 224 (.agg #[]) "bulletin/wildmat.chars").run Tryz.prog w = .ok (267, .agg #[]) w := fun w => by kernel_rfl
  go_enter Tryz.func191, Tryz.ntmps191
  go_wp2_with fail
  refine (charsC _).mono ?_
  rintro e w' ⟨rfl, rfl⟩
  go_wp2_with fail
  refine (Tryz.strings_IndexByte _ _ _).mono ?_
  rintro e w' ⟨rfl, rfl⟩
  go_wp2_with fail
  go_ret
  refine ⟨?_, (Gr.refl w).alloc _⟩
  simp [standB]

/-- Two marks in a block. -/
def Two (w : World) (b : Nat) (x y : Bool) : Prop := w.heap[b]? = some (.cells #[.bool x, .bool y] 4 (0, 0))
theorem Two.lt {w : World} {b : Nat} {x y : Bool} (h : Two w b x y) : b < w.heap.size := (Array.getElem?_eq_some_iff.1 h).1
theorem Two.c0 {w : World} {b : Nat} {x y : Bool} (h : Two w b x y) : w.cell? ⟨b, 0, none⟩ = some (.bool x) := (cell_of_row w b 0 _ _ _ h).trans rfl
theorem Two.c1 {w : World} {b : Nat} {x y : Bool} (h : Two w b x y) : w.cell? ⟨b, 1, none⟩ = some (.bool y) := (cell_of_row w b 1 _ _ _ h).trans rfl
theorem Two.fr {w : World} {b : Nat} {x y : Bool} (h : Two w b x y) (k : Nat) : w.frozen? ⟨b, k, none⟩ = false := frozen_of_row w _ _ _ _ h
theorem Two.set0 {w : World} {b : Nat} {x y : Bool} (h : Two w b x y) (z : Bool) : Two (w.setCell ⟨b, 0, none⟩ (.bool z)) b z y := heap_setCell_same w b 0 _ _ (.bool z) h
theorem Two.set1 {w : World} {b : Nat} {x y : Bool} (h : Two w b x y) (z : Bool) : Two (w.setCell ⟨b, 1, none⟩ (.bool z)) b x z := heap_setCell_same w b 1 _ _ (.bool z) h
theorem Two.gr {w w' : World} {b : Nat} {x y : Bool} (h : Two w b x y) (hg : Gr w w') : Two w' b x y := (hg.block h.lt).trans h
theorem grown_set {w w1 : World} (hg : Gr w w1) (b k : Nat) (v : Value) : w.grownBy (w1.setCell ⟨b, k, none⟩ v) (some b) :=
  ⟨hg.os, hg.tape, hg.output, by have := hg.size; simpa using this, fun j hj hne => (heap_setCell_other w1 ⟨b, k, none⟩ j v (fun e => hne (by rw [e]))).trans (hg.block hj)⟩
def SpreadPost (ba : Nat) (x : Bool) (w : World) (e : Ending) (w' : World) : Prop := e = .returned (.tuple #[]) ∧ Two w' ba x x ∧ w.grownBy w' (some ba)
set_option maxRecDepth 100000 in
set_option maxHeartbeats 2000000 in
theorem spreadC (n b ba : Nat) (x : Bool) (w : World) (hp : PatAt w n b) (h2 : Two w ba x false) :
    Calls Tryz.prog 190 #[.pointer (some ⟨b, 0, none⟩), .slice (some ⟨ba, 0, none⟩) 2 2] w (SpreadPost ba x w) := by
  obtain ⟨q, c, rest, n1, n2, p1, p2⟩ := hp
  have d1 : w.cell? ⟨b, 1, none⟩ = some (.slice (some ⟨q, 0, none⟩) 1 c) := (cell_of_row w b 1 _ _ _ p1).trans rfl
  have d2 : w.cell? ⟨q, 0, none⟩ = some starV := by rw [cell_of_row w q 0 _ _ _ p2, Array.getElem?_append]; rfl
  have e0 := h2.c0
  have HT := Lib.hid h2
  clear p1 p2 n1 n2 h2
  cases x with
  | false =>
    go_enter Tryz.func190, Tryz.ntmps190
    go_wp2_with fail
    refine wp_loop_rounds 2 ?_
    rw [rounds_succ]
    go_wp2_with fail
    rw [rounds_succ]
    go_wp2_with fail
    go_end0
    exact ⟨rfl, HT.out, World.grownBy.refl _ _⟩
  | true =>
    go_enter Tryz.func190, Tryz.ntmps190
    go_wp2_with fail
    refine wp_loop_rounds 2 ?_
    rw [rounds_succ]
    go_wp2_with fail
    refine (isStarC _).mono ?_
    rintro e w1 ⟨rfl, hg⟩
    have h1 := HT.out.gr hg
    have f1 := h1.c1
    have f2 := h1.fr 1
    have H1 := Lib.hid h1; have HG := Lib.hid hg
    clear h1 hg
    go_wp2_with fail
    rw [rounds_succ]
    go_wp2_with fail
    go_end0
    exact ⟨rfl, H1.out.set1 true, grown_set HG.out _ _ _⟩

theorem infoBool : (Tryz.prog.info? 4).map (fun i => (i.zero, i.size, i.bytes)) = some (some (.bool false), 1, 1) := by kernel_rfl
theorem make2 (w : World) : (Instr.makeSlice 262 (.int .i64 2) (.int .i64 2)).run Tryz.prog w = .ok (.slice (some ⟨w.heap.size, 0, none⟩) 2 2) (w.alloc (.cells #[.bool false, .bool false] 4)) := by
  have h := run_make_row' (P := Tryz.prog) 262 4 (.bool false) 1 Tryz.underlying262 infoBool rfl .i64 .i64 2 (by decide) (by decide) w
  rw [show madeCells #[Value.bool false] 2 = #[.bool false, .bool false] from by unfold madeCells; rw [show Array.range 2 = #[0, 1] from by decide]; simp] at h
  exact h
def matchB (s : ByteArray) : Bool := (bl s).all standB
theorem all_succ (l : List UInt8) (k : Nat) (h : k < l.length) : (l.take (k + 1)).all standB = ((l.take k).all standB && standB l[k]) := by
  rw [List.take_succ_eq_append_getElem h, List.all_append]; simp
theorem PatAt.grown {w w' : World} {n b ba : Nat} (h : PatAt w n b) (hg : w.grownBy w' (some ba)) (hb : ba < n ∨ w.heap.size ≤ ba) : PatAt w' n b := h.keep fun j hj hlt => hg.block j hlt (fun e => by cases e; omega)
set_option maxRecDepth 100000 in
set_option maxHeartbeats 4000000 in
theorem matchC (n b : Nat) (s : ByteArray) (w : World) (hp : PatAt w n b) (hsz : s.size ≤ 1000000) :
    Calls Tryz.prog 150 #[.pointer (some ⟨b, 0, none⟩), .string s] w fun e w' => e = .returned (.bool (matchB s)) ∧ Gr w w' := by
  have HP := Lib.hid hp
  obtain ⟨q, c, rest, n1, n2, p1, p2⟩ := hp
  have d1 : w.cell? ⟨b, 1, none⟩ = some (.slice (some ⟨q, 0, none⟩) 1 c) := (cell_of_row w b 1 _ _ _ p1).trans rfl
  have hmk := make2
  have d2 : w.cell? ⟨q, 0, none⟩ = some starV := by rw [cell_of_row w q 0 _ _ _ p2, Array.getElem?_append]; rfl
  clear p1 p2 n1 n2
  go_enter Tryz.func150, Tryz.ntmps150
  go_wp2_with fail
  have t0 : Two (w.alloc (.cells #[.bool true, .bool false] 4)) w.heap.size true false := heap_alloc_new w _
  refine (spreadC n b w.heap.size true _ (HP.out.gr ((Gr.refl w).alloc _)) t0).mono ?_
  rintro e w1 ⟨rfl, t1, g1⟩
  have hg1 : Gr w w1 := ((Gr.refl w).alloc _).grown g1 (fun k hk => by cases hk; exact Nat.le_refl _)
  obtain ⟨cap, W, hrun, hlay, hby, hcap⟩ := conv_bytes s w1
  have HG := Lib.hid (hg1.trans hlay.1); have HB := Lib.hid hby; have T1 := Lib.hid (t1.gr hlay.1)
  have hne0 : w.heap.size < w1.heap.size := t1.lt
  clear t0 t1 g1 hg1 hlay hby
  go_wp2_with fail
  go_loopw [5, 7, 8, 9, 10, 28, 29, 30, 31, 32, 33, 34, 35, 36, 37, 38, 39, 40, 41, 42, 43, 44, 45, 46, 47, 48, 49, 50, 51, 52, 53, 54, 55, 56, 57, 58, 59, 60, 61, 62, 63, 64, 65, 66, 67, 68, 69, 70, 71, 72] (fun at_ _ _ _ _ i _ _ _ _ _ _ _ _ _ _ _ _ _ _ _ _ _ _ _ _ _ _ _ _ _ _ _ _ _ _ _ _ _ _ _ _ _ _ _ _ _ _ _ _ wr => ∃ (k ba : Nat), k ≤ s.size ∧ i = .int .i64 k ∧ at_ = .slice (some ⟨ba, 0, none⟩) 2 2 ∧ w.heap.size ≤ ba ∧ ba ≠ w1.heap.size ∧ Hid (Gr w wr) ∧ Hid (BytesAt wr w1.heap.size 0 (bl s)) ∧ Hid (Two wr ba (((bl s).take k).all standB) (((bl s).take k).all standB))) (fun _ _ _ _ _ i _ _ _ _ _ _ _ _ _ _ _ _ _ _ _ _ _ _ _ _ _ _ _ _ _ _ _ _ _ _ _ _ _ _ _ _ _ _ _ _ _ _ _ _ _ => s.size - (intOf i).toNat)
  case atStart => exact ⟨0, w.heap.size, Nat.zero_le _, rfl, rfl, Nat.le_refl _, by omega, HG.out, HB.out, T1.out⟩
  case round =>
    obtain ⟨k, ba, hk, rfl, rfl, hba, hbne, hG, hB, hT⟩ := hrel
    have dd1 : wr.cell? ⟨b, 1, none⟩ = some (.slice (some ⟨q, 0, none⟩) 1 c) := (hG.out.cell (p := ⟨b, 1, none⟩) (World.block_lt_of_cell? w _ d1)).trans d1
    have e0 := hT.out.c0
    have e1 := hT.out.c1
    by_cases hlt : k < s.size
    · have hkb := hB.out k (by rw [bl_length]; exact hlt)
      have hk1 : (k : Int) < (s.size : Int) := by omega
      have hk2 : (0 : Int) ≤ (k : Int) := by omega
      rw [Nat.zero_add] at hkb
      have HS := Lib.hid (all_succ (bl s) k (by rw [bl_length]; exact hlt))
      generalize ((bl s).take k).all standB = x at *
      generalize (bl s)[k]'(by rw [bl_length]; exact hlt) = ch at *
      have hbw : b < wr.heap.size := Nat.lt_of_lt_of_le (World.block_lt_of_cell? w _ d1) hG.out.size
      have hqw : q < wr.heap.size := Nat.lt_of_lt_of_le (World.block_lt_of_cell? w _ d2) hG.out.size
      have dd2 : wr.cell? ⟨q, 0, none⟩ = some starV := (hG.out.cell (p := ⟨q, 0, none⟩) (World.block_lt_of_cell? w _ d2)).trans d2
      have haw := hT.out.lt
      have tn : Hid (Two (wr.alloc (.cells #[.bool false, .bool false] 4)) wr.heap.size false false) := heap_alloc_new wr _
      have gn := Lib.hid ((Gr.refl wr).alloc (.cells #[.bool false, .bool false] 4))
      have hw1 : w1.heap.size < wr.heap.size := World.block_lt_of_cell? wr _ hkb
      cases x with
      | false =>
        rw [Bool.false_and] at HS
        go_wp2_with fail
        refine wp_loop_rounds 2 ?_
        rw [rounds_succ]
        go_wp2_with fail
        rw [rounds_succ]
        go_wp2_with fail
        refine (spreadC n b wr.heap.size false _ (HP.out.gr (hG.out.trans gn.out)) tn.out).mono ?_
        rintro e w3 ⟨rfl, t3, g3⟩
        have T3 := Lib.hid t3
        have G3 : Hid (Gr wr w3) := gn.out.grown g3 (fun k hk => by cases hk; exact Nat.le_refl _)
        clear t3 g3
        go_wp2_with fail
        go_roundw
        case rel => exact ⟨k + 1, wr.heap.size, by omega, by go_num, rfl, hG.out.size, by omega, hG.out.trans G3.out, hB.out.gr G3.out hw1, by show Two _ _ _ _; rw [HS.out]; exact T3.out⟩
        case measure => simp [intOf]; omega
      | true =>
        rw [Bool.true_and] at HS
        have HST := Lib.hid (standsC ch)
        cases hst : standB ch with
        | false =>
          rw [hst] at HS
          simp only [hst] at HST
          clear hst
          go_wp2_with fail
          refine wp_loop_rounds 2 ?_
          rw [rounds_succ]
          go_wp2_with fail
          refine (HST.out _).mono ?_
          rintro e w2 ⟨rfl, hg2⟩
          have tn2 := Lib.hid (tn.out.gr hg2)
          have gn2 := Lib.hid (gn.out.trans hg2)
          have dd1' : w2.cell? ⟨b, 1, none⟩ = some (.slice (some ⟨q, 0, none⟩) 1 c) := (gn2.out.cell (p := ⟨b, 1, none⟩) hbw).trans dd1
          clear hg2
          go_wp2_with fail
          rw [rounds_succ]
          go_wp2_with fail
          refine (spreadC n b wr.heap.size false _ (HP.out.gr (hG.out.trans gn2.out)) tn2.out).mono ?_
          rintro e w3 ⟨rfl, t3, g3⟩
          have T3 := Lib.hid t3
          have G3 : Hid (Gr wr w3) := gn2.out.grown g3 (fun k hk => by cases hk; exact Nat.le_refl _)
          clear t3 g3
          go_wp2_with fail
          go_roundw
          case rel => exact ⟨k + 1, wr.heap.size, by omega, by go_num, rfl, hG.out.size, by omega, hG.out.trans G3.out, hB.out.gr G3.out hw1, by show Two _ _ _ _; rw [HS.out]; exact T3.out⟩
          case measure => simp [intOf]; omega
        | true =>
          rw [hst] at HS
          simp only [hst] at HST
          clear hst
          go_wp2_with fail
          refine wp_loop_rounds 2 ?_
          rw [rounds_succ]
          go_wp2_with fail
          refine (HST.out _).mono ?_
          rintro e w2 ⟨rfl, hg2⟩
          have tn2 := Lib.hid (tn.out.gr hg2)
          have gn2 := Lib.hid (gn.out.trans hg2)
          clear hg2
          go_wp2_with fail
          refine (isStarC _).mono ?_
          rintro e w4 ⟨rfl, hg4⟩
          have gn4 := Lib.hid (gn2.out.trans hg4)
          have tn4 := Lib.hid (tn2.out.gr hg4)
          have dd1' : w4.cell? ⟨b, 1, none⟩ = some (.slice (some ⟨q, 0, none⟩) 1 c) := (gn4.out.cell (p := ⟨b, 1, none⟩) hbw).trans dd1
          have c0 := tn4.out.c0
          have c1 := tn4.out.fr 0
          have tn5 := Lib.hid (tn4.out.set0 true)
          have gn5 := Lib.hid (gn4.out.setCell (p := ⟨wr.heap.size, 0, none⟩) (Nat.le_refl _) (.bool true))
          clear hg4
          go_wp2_with fail
          rw [rounds_succ]
          go_wp2_with fail
          refine (spreadC n b wr.heap.size true _ (HP.out.gr (hG.out.trans gn5.out)) tn5.out).mono ?_
          rintro e w3 ⟨rfl, t3, g3⟩
          have T3 := Lib.hid t3
          have G3 : Hid (Gr wr w3) := gn5.out.grown g3 (fun k hk => by cases hk; exact Nat.le_refl _)
          clear t3 g3
          go_wp2_with fail
          go_roundw
          case rel => exact ⟨k + 1, wr.heap.size, by omega, by go_num, rfl, hG.out.size, by omega, hG.out.trans G3.out, hB.out.gr G3.out hw1, by show Two _ _ _ _; rw [HS.out]; exact T3.out⟩
          case measure => simp [intOf]; omega
    · have hall : Hid (matchB s = ((bl s).take k).all standB) := by show _ = _; unfold matchB; rw [List.take_of_length_le (by rw [bl_length]; omega)]
      generalize ((bl s).take k).all standB = x at *
      go_wp2_with fail
      go_ret
      exact ⟨ret_bool hall.out.symm, hG.out⟩

set_option maxRecDepth 100000 in
set_option maxHeartbeats 1000000 in
theorem lenC (n b : Nat) (w : World) (hp : ListAt w n b) : Calls Tryz.prog 149 #[.pointer (some ⟨b, 0, none⟩)] w fun e w' => e = .returned (.int .i64 1) ∧ w = w' := by
  obtain ⟨q, c, p, rest, n1, n2, p1, p2, _⟩ := hp
  have d1 : w.cell? ⟨b, 1, none⟩ = some (.slice (some ⟨q, 0, none⟩) 1 c) := (cell_of_row w b 1 _ _ _ p1).trans rfl
  clear p1 p2
  go_enter Tryz.func149, Tryz.ntmps149
  go_wp2_with fail
  go_ret
  exact ⟨rfl, rfl⟩
set_option maxRecDepth 100000 in
set_option maxHeartbeats 1000000 in
theorem verdictC (n b : Nat) (s : ByteArray) (w : World) (hp : ListAt w n b) (hsz : s.size ≤ 1000000) : Calls Tryz.prog 106 #[.pointer (some ⟨b, 0, none⟩), .string s] w fun e w' => e = .returned (.int .i64 (if matchB s = true then 1 else 0)) ∧ Gr w w' := by
  have HL := Lib.hid (lenC n b w hp)
  obtain ⟨q, c, p, rest, n1, n2, p1, p2, p3⟩ := hp
  have d1 : w.cell? ⟨b, 1, none⟩ = some (.slice (some ⟨q, 0, none⟩) 1 c) := (cell_of_row w b 1 _ _ _ p1).trans rfl
  have d2 : w.cell? ⟨q, 0, none⟩ = some (.pointer (some ⟨p, 0, none⟩)) := by rw [cell_of_row w q 0 _ _ _ p2, Array.getElem?_append]; rfl
  have d3 : w.cell? ⟨q, 1, none⟩ = some (.int .i64 1) := by rw [cell_of_row w q 1 _ _ _ p2, Array.getElem?_append]; rfl
  have HM := Lib.hid (matchC n p s w p3 hsz)
  have hbw : b < w.heap.size := World.block_lt_of_cell? w _ d1
  have hqw : q < w.heap.size := World.block_lt_of_cell? w _ d2
  clear p1 p2 p3
  cases hm : matchB s with
  | true =>
    rw [hm] at HM
    go_enter Tryz.func106, Tryz.ntmps106
    go_wp2_with fail
    refine HL.out.mono ?_
    rintro e w' ⟨rfl, rfl⟩
    go_wp2_with fail
    refine wp_loop_rounds 2 ?_
    rw [rounds_succ]
    go_wp2_with fail
    refine HM.out.mono ?_
    rintro e w1 ⟨rfl, hg⟩
    have k1 := (hg.cell (p := ⟨b, 1, none⟩) hbw).trans d1
    have k2 := (hg.cell (p := ⟨q, 1, none⟩) hqw).trans d3
    go_wp2_with fail
    go_ret
    exact ⟨rfl, hg⟩
  | false =>
    rw [hm] at HM
    go_enter Tryz.func106, Tryz.ntmps106
    go_wp2_with fail
    refine HL.out.mono ?_
    rintro e w' ⟨rfl, rfl⟩
    go_wp2_with fail
    refine wp_loop_rounds 2 ?_
    rw [rounds_succ]
    go_wp2_with fail
    refine HM.out.mono ?_
    rintro e w1 ⟨rfl, hg⟩
    go_wp2_with fail
    rw [rounds_succ]
    go_wp2_with fail
    go_ret
    exact ⟨rfl, hg⟩
end Go.Proofs.YtemhfcfebkjioaaGreatDoor

/- EverModerator, cancel.Counts and the statement's own counts: what each returns. -/
import Derived.Test.YtemhfcfebkjioaaGreatDoorPick
namespace Go.Proofs.YtemhfcfebkjioaaGreatDoor
open Go.RowKit

/-- A pointer to a registry, nil or not. -/
def ptrV (r : Option Nat) : Value := .pointer (r.map fun b => ⟨b, 0, none⟩)
/-- The registry at r holds the definitions ents. -/
def RegAt (w : World) (r : Option Nat) (ents : List (Dfn × List Aut)) : Prop :=
  match r with
  | none => ents = []
  | some br => ∃ bm n D, w.cell? ⟨br, 2, none⟩ = some (.map (some bm)) ∧ Defs w bm n D ents ∧ ents.length ≤ 12
theorem RegAt.gr {w w' : World} {r : Option Nat} {ents : List (Dfn × List Aut)} (h : RegAt w r ents) (hg : Gr w w') : RegAt w' r ents := by
  cases r with
  | none => exact h
  | some br =>
    obtain ⟨bm, n, D, h1, h2, h3⟩ := h
    exact ⟨bm, n, D, (hg.cell (p := ⟨br, 2, none⟩) (World.block_lt_of_cell? w _ h1)).trans h1, h2.gr hg, h3⟩

set_option maxRecDepth 100000 in
set_option maxHeartbeats 2000000 in
theorem pickNil (w : World) (fv : Value) : Calls Tryz.prog 67 #[.pointer none, fv] w fun e w' => e = .returned (.slice none 0 0) ∧ w = w' := by
  go_enter Tryz.func67, Tryz.ntmps67
  go_wp2_with fail
  go_ret
  exact ⟨rfl, rfl⟩

set_option maxRecDepth 100000 in
set_option maxHeartbeats 2000000 in
theorem everMod (r : Option Nat) (ents : List (Dfn × List Aut)) (g : ByteArray) (x : Aut) (w : World) (hr : RegAt w r ents) :
    Calls Tryz.prog 38 #[ptrV r, .string g, .agg (bC x).toArray] w fun e w' => e = .returned (.bool (everB ents g x)) ∧ Gr w w' := by
  have hG := Lib.hid (((Gr.refl w).alloc (.cells #[.string g] 9)).alloc (.cells (bC x).toArray 25))
  cases r with
  | none =>
    have he : Hid (everB ents g x = false) := by show _ = _; rw [show ents = [] from hr]; rfl
    clear hr
    unfold ptrV
    simp only [Option.map_none]
    go_enter Tryz.func38, Tryz.ntmps38
    go_wp2_with fail
    refine (pickNil _ _).mono ?_
    rintro e w' ⟨rfl, rfl⟩
    go_wp2_with fail
    go_ret
    exact ⟨ret_bool he.out.symm, hG.out⟩
  | some br =>
    obtain ⟨bm, n, D, h1, h2, h3⟩ := hr
    have hb := World.block_lt_of_cell? w _ h1
    have HP := Lib.hid (pickEver br bm n D ents g x w.heap.size (w.heap.size + 1) ((w.alloc (.cells #[.string g] 9)).alloc (.cells (bC x).toArray 25))
      ((hG.out.cell (p := ⟨br, 2, none⟩) hb).trans h1) (h2.gr hG.out) h3 (by go_simp) (by go_simp) (by go_simp))
    clear h1 h2 h3 hb
    unfold ptrV
    simp only [Option.map_some]
    go_enter Tryz.func38, Tryz.ntmps38
    go_wp2_with fail
    refine HP.out.mono ?_
    rintro e w1 ⟨a, m, c, rfl, hd, hg1⟩
    have HDe := Lib.hid hd
    clear hd
    go_wp2_with fail
    go_ret
    exact ⟨ret_bool (by rw [← HDe.out]), hG.out.trans hg1⟩

set_option maxRecDepth 100000 in
set_option maxHeartbeats 2000000 in
theorem countsClo (r : Option Nat) (ents : List (Dfn × List Aut)) (g : ByteArray) (x : Aut) (rb yb : Nat) (w : World) (hr : RegAt w r ents) (h1 : w.cell? ⟨rb, 0, none⟩ = some (ptrV r)) (h2 : hasRow w ⟨yb, 32, none⟩ 16 = true) (h3 : rowAt w ⟨yb, 32, none⟩ 16 = bC x) :
    Calls Tryz.prog 37 #[.string g, .pointer (some ⟨rb, 0, none⟩), .pointer (some ⟨yb, 0, none⟩)] w fun e w' => e = .returned (.bool (everB ents g x)) ∧ Gr w w' := by
  have HE := Lib.hid (everMod r ents g x w hr)
  clear hr
  go_enter Tryz.func37, Tryz.ntmps37
  go_wp2_with fail
  refine HE.out.mono ?_
  rintro e w1 ⟨rfl, hg1⟩
  go_wp2_with fail
  go_ret
  exact ⟨rfl, hg1⟩

/-- Does a cancellation withdraw an article? -/
def countsB (y : Canc) (x : Rw) (gs : List ByteArray) (ents : List (Dfn × List Aut)) : Bool :=
  (y.target == x.id) && decide (x.date ≤ y.date) && (y.author == x.author || gs.any fun g => everB ents g y.author)

theorem box3 (w : World) (y : Canc) (x : Rw) (v : Value) : ∃ W, W = ((w.alloc (.cells (cancC y).toArray 27)).alloc (.cells (rwC x).toArray 31)).alloc (.cells #[v] 36) ∧ Gr w W ∧
    W.heap[w.heap.size]? = some (.cells (cancC y).toArray 27 (0, 0)) ∧ W.cell? ⟨w.heap.size + 2, 0, none⟩ = some v := by
  refine ⟨_, rfl, (((Gr.refl w).alloc _).alloc _).alloc _, ?_, ?_⟩
  · rw [heap_alloc_old _ _ (by simp; omega), heap_alloc_old _ _ (by simp)]; exact heap_alloc_new w _
  · rw [World.cell?_alloc_at _ _ _ _ (by simp)]; rfl

set_option maxRecDepth 100000 in
set_option maxHeartbeats 4000000 in
theorem countsC (y : Canc) (x : Rw) (gs : List ByteArray) (r : Option Nat) (ents : List (Dfn × List Aut)) (w : World) (hr : RegAt w r ents) (hgs : StrsAt w x.groups gs) (hl : gs.length ≤ 1000000) :
    Calls Tryz.prog 15 #[.agg (cancC y).toArray, .agg (rwC x).toArray, ptrV r] w fun e w' => e = .returned (.bool (countsB y x gs ents)) ∧ Gr w w' := by
  obtain ⟨W, hW, hGW, hby, hbr⟩ := box3 w y x (ptrV r)
  have eg : ∀ args w, (callFunc 37 args).run Tryz.prog w = .ok (.enter 37 args) w := enters_of Tryz.func37 (by kernel_rfl) rfl
  have hz : w.heap.size < W.heap.size := (Array.getElem?_eq_some_iff.1 hby).1
  have HC := Lib.hid (containsFuncS gs x.groups (fun g => everB ents g y.author) 37 #[.pointer (some ⟨w.heap.size + 2, 0, none⟩), .pointer (some ⟨w.heap.size, 0, none⟩)] W eg
    (fun s _ W' hg' => countsClo r ents s y.author (w.heap.size + 2) w.heap.size W' (hr.gr (hGW.trans hg')) ((hg'.cell (p := ⟨w.heap.size + 2, 0, none⟩) (World.block_lt_of_cell? W _ hbr)).trans hbr)
      ((hg'.hasRow hz).trans (hasRow_block hby 32 16 (by rw [cancC_length]; decide))) (((hg'.rowAt hz).trans (rowAt_block hby 32 16 (by rw [cancC_length]; decide))).trans (canc_author y))) (hgs.gr hGW) hl)
  obtain ⟨ga, gc, hgv, _⟩ := hgs
  have HG := Lib.hid hGW
  have HW := Lib.hid hW
  clear hr eg hby hbr hz hGW hW
  obtain ⟨pr, hpr⟩ : ∃ pr, ptrV r = .pointer pr := ⟨_, rfl⟩
  rw [hpr] at HW ⊢
  have HPR := Lib.hid hpr
  clear hpr
  cases ht : (y.target == x.id) with
  | false =>
    have hf : Hid (countsB y x gs ents = false) := by show _ = _; unfold countsB; rw [ht]; rfl
    go_enter Tryz.func15, Tryz.ntmps15
    go_wp2_with fail
    go_ret
    exact ⟨ret_bool hf.out.symm, by rw [← HW.out]; exact HG.out⟩
  | true =>
    by_cases hd : x.date ≤ y.date
    · have hd1 : decide (y.date < x.date) = false := by simp; omega
      have hf0 : Hid (countsB y x gs ents = (y.author == x.author || gs.any fun g => everB ents g y.author)) := by show _ = _; unfold countsB; rw [ht]; simp [hd]
      cases ha : (y.author == x.author) with
      | true =>
        have hf : Hid (countsB y x gs ents = true) := by show _ = _; rw [hf0.out, ha]; rfl
        go_enter Tryz.func15, Tryz.ntmps15
        go_wp2_with fail
        go_ret
        exact ⟨ret_bool hf.out.symm, by rw [← HW.out]; exact HG.out⟩
      | false =>
        have hf : Hid (countsB y x gs ents = gs.any fun g => everB ents g y.author) := by show _ = _; rw [hf0.out, ha]; rfl
        generalize (gs.any fun g => everB ents g y.author) = res at *
        go_enter Tryz.func15, Tryz.ntmps15
        go_wp2_with fail
        rw [← HW.out]
        rw [hgv] at HC
        refine HC.out.mono ?_
        rintro e w1 ⟨rfl, hg1⟩
        go_wp2_with fail
        go_ret
        exact ⟨ret_bool hf.out.symm, HG.out.trans hg1⟩
    · have hd1 : decide (y.date < x.date) = true := by simp; omega
      have hf : Hid (countsB y x gs ents = false) := by show _ = _; unfold countsB; simp [hd]
      go_enter Tryz.func15, Tryz.ntmps15
      go_wp2_with fail
      go_ret
      exact ⟨ret_bool hf.out.symm, by rw [← HW.out]; exact HG.out⟩

def okTo (y : Canc) (x : Rw) (gs : List ByteArray) (ents : List (Dfn × List Aut)) (k : Nat) : Bool := y.author == x.author || anyTo gs (fun g => everB ents g y.author) k
theorem okTo_succ (y : Canc) (x : Rw) (gs : List ByteArray) (ents : List (Dfn × List Aut)) (k : Nat) (h : k < gs.length) : okTo y x gs ents (k + 1) = (okTo y x gs ents k || everB ents gs[k] y.author) := by
  unfold okTo; rw [anyTo_succ gs _ k h, Bool.or_assoc]
theorem box2b (w : World) (y : Canc) (x : Rw) : ∃ W, W = (w.alloc (.cells (cancC y).toArray 27)).alloc (.cells (rwC x).toArray 31) ∧ Gr w W ∧
    W.heap[w.heap.size]? = some (.cells (cancC y).toArray 27 (0, 0)) ∧ W.heap[w.heap.size + 1]? = some (.cells (rwC x).toArray 31 (0, 0)) :=
  ⟨_, rfl, ((Gr.refl w).alloc _).alloc _, heap_alloc2_old w _ _, heap_alloc2_new w _ _⟩

set_option maxRecDepth 100000 in
set_option maxHeartbeats 4000000 in
theorem countsL (y : Canc) (x : Rw) (gs : List ByteArray) (r : Option Nat) (ents : List (Dfn × List Aut)) (w : World) (hr : RegAt w r ents) (hgs : StrsAt w x.groups gs) (hl : gs.length ≤ 1000000) :
    Calls Tryz.prog 16 #[.agg (cancC y).toArray, .agg (rwC x).toArray, ptrV r] w fun e w' => e = .returned (.bool (countsB y x gs ents)) ∧ Gr w w' := by
  obtain ⟨W, hW, hGW, hby, hbx⟩ := box2b w y x
  have HR := Lib.hid hr
  obtain ⟨ga, gc, hgv, hgj⟩ := hgs
  have HJ := Lib.hid hgj
  have HG := Lib.hid hGW
  have HW := Lib.hid hW
  have HBY := Lib.hid hby
  have HBX := Lib.hid hbx
  clear hr hby hbx hGW hW hgj
  obtain ⟨pr, hpr⟩ : ∃ pr, ptrV r = .pointer pr := ⟨_, rfl⟩
  have HPR := Lib.hid hpr
  rw [hpr]
  clear hpr
  cases ht : (y.target == x.id) with
  | false =>
    have hf : Hid (countsB y x gs ents = false) := by show _ = _; unfold countsB; rw [ht]; rfl
    go_enter Tryz.func16, Tryz.ntmps16
    go_wp2_with fail
    go_ret
    exact ⟨ret_bool hf.out.symm, by rw [← HW.out]; exact HG.out⟩
  | true =>
    by_cases hd : x.date ≤ y.date
    · have hd1 : decide (y.date < x.date) = false := by simp; omega
      have hf0 : Hid (countsB y x gs ents = okTo y x gs ents gs.length) := by show _ = _; unfold countsB okTo anyTo; rw [ht, List.take_length]; simp [hd]
      have hs0 : Hid (okTo y x gs ents 0 = (y.author == x.author)) := by show _ = _; unfold okTo anyTo; simp
      go_enter Tryz.func16, Tryz.ntmps16
      go_wp2_with fail
      rw [← HW.out, ← hs0.out]
      clear ht hd hd1 hs0
      go_loopw [7, 8, 26, 28, 29, 30, 31, 32, 33, 34, 35, 36, 37, 38, 39, 40, 41, 42, 43, 44] (fun ok i _ _ _ _ _ _ _ _ _ _ _ _ _ _ _ _ _ _ wr => ∃ k : Nat, k ≤ gs.length ∧ i = .int .i64 k ∧ ok = .bool (okTo y x gs ents k) ∧ Hid (Gr W wr)) (fun _ i _ _ _ _ _ _ _ _ _ _ _ _ _ _ _ _ _ _ _ => gs.length - (intOf i).toNat)
      case atStart => exact ⟨0, Nat.zero_le _, rfl, rfl, Gr.refl W⟩
      case round =>
        obtain ⟨k, hk, rfl, rfl, hG⟩ := hrel
        have by1 := (hG.out.block (Array.getElem?_eq_some_iff.1 HBY.out).1).trans HBY.out
        have bx1 := (hG.out.block (Array.getElem?_eq_some_iff.1 HBX.out).1).trans HBX.out
        have c1 := (cell_block bx1 49).trans (rw_groups x)
        rw [hgv] at c1
        have c2 := hasRow_block by1 32 16 (by rw [cancC_length]; decide)
        have c3 := (rowAt_block by1 32 16 (by rw [cancC_length]; decide)).trans (canc_author y)
        have s1 := (Array.getElem?_eq_some_iff.1 by1).1
        have s2 := (Array.getElem?_eq_some_iff.1 bx1).1
        clear by1 bx1
        by_cases hlt : k < gs.length
        · obtain ⟨b, o, rfl, hb, hcell⟩ := HJ.out k hlt
          have c4 := ((HG.out.trans hG.out).cell (p := ⟨b, o + k, none⟩) hb).trans hcell
          have hb' : b < wr.heap.size := Nat.lt_of_lt_of_le hb (HG.out.trans hG.out).size
          clear hcell
          have HS := Lib.hid (okTo_succ y x gs ents k hlt)
          have hk0 : (0 : Int) ≤ (k : Int) := by omega
          have hk1 : (k : Int) < (gs.length : Int) := by omega
          generalize gs[k] = gk at *
          cases hok : okTo y x gs ents k with
          | true =>
            have HOK := Lib.hid hok
            clear hok
            go_wp2_with fail
            refine wp_region_gr (by kernel_rfl) (by kernel_rfl) ?_
            repeat (go_big_quiet_step (fail))
            refine wpQuiet_nil ?_
            rintro _ ⟨p, rfl⟩
            have hp := Lib.hid (hG.out.trans (gr_gw wr p))
            generalize gw wr p = U at *
            go_wp2_with fail
            go_roundw
            case rel => exact ⟨k + 1, by omega, by go_num, by rw [HS.out, HOK.out]; rfl, hp.out⟩
            case measure => simp [intOf]; omega
          | false =>
            have HOK := Lib.hid hok
            clear hok
            go_wp2_with fail
            refine wp_region_gr (by kernel_rfl) (by kernel_rfl) ?_
            repeat (go_big_quiet_step ((go_at_call 38; rw [← HPR.out]; exact gr_call (everMod r ents gk y.author _ (HR.out.gr ((HG.out.trans hG.out).trans (gr_gw wr _)))))))
            refine wpQuiet_nil ?_
            rintro _ ⟨p, rfl⟩
            have hp := Lib.hid (hG.out.trans (gr_gw wr p))
            generalize gw wr p = U at *
            go_wp2_with fail
            go_roundw
            case rel => exact ⟨k + 1, by omega, by go_num, by rw [HS.out, HOK.out]; rfl, hp.out⟩
            case measure => simp [intOf]; omega
        · have hf : Hid (countsB y x gs ents = okTo y x gs ents k) := by show _ = _; rw [hf0.out, show k = gs.length by omega]
          go_wp2_with fail
          go_ret
          exact ⟨ret_bool hf.out.symm, HG.out.trans hG.out⟩
    · have hd1 : decide (y.date < x.date) = true := by simp; omega
      have hf : Hid (countsB y x gs ents = false) := by show _ = _; unfold countsB; simp [hd]
      go_enter Tryz.func16, Tryz.ntmps16
      go_wp2_with fail
      go_ret
      exact ⟨ret_bool hf.out.symm, by rw [← HW.out]; exact HG.out⟩
end Go.Proofs.YtemhfcfebkjioaaGreatDoor

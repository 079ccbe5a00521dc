/- The comparing functions of the library at ints, bytes, strings and slices of bytes; worlds that a comparing function leaves. -/
import Derived.Test.YtemhfcfebkjioaaGreatDoorFacts
import Derived.Outline
import Derived.WalkSpells
import Derived.WalkLawsBesides
import Derived.Deep.QuietTactic
import Derived.BigQuiet
import Derived.Lib.Bytealg
import Derived.Sort.Grow
namespace Go.Proofs.YtemhfcfebkjioaaGreatDoor
open Go.RowKit

/-- w' is w with new blocks and more draws. -/
def Lay (w w' : World) : Prop := Gr w w' ∧ w.drawn ≤ w'.drawn
theorem Lay.refl (w : World) : Lay w w := ⟨Gr.refl w, Nat.le_refl _⟩
theorem Lay.trans {a b c : World} (h : Lay a b) (k : Lay b c) : Lay a c := ⟨h.1.trans k.1, Nat.le_trans h.2 k.2⟩
theorem Lay.alloc {a w : World} (h : Lay a w) (o : Obj) : Lay a (w.alloc o) := ⟨h.1.alloc o, h.2⟩
theorem Lay.drew {a w : World} (h : Lay a w) : Lay a w.drew := ⟨h.1.drew, Nat.le_succ_of_le h.2⟩
theorem Lay.drewN {a w : World} (h : Lay a w) (n : Nat) : Lay a (w.drewN n) := ⟨h.1.drewN n, Nat.le_trans h.2 (Nat.le_add_right _ _)⟩
theorem Lay.grow {w w' : World} (h : Lay w w') : ∃ q os, w' = Sort.grow (w.drewN q) os := by
  obtain ⟨g, hd⟩ := h
  have g1 : w'.os = w.os := Below.os g
  have g2 : w'.tape = w.tape := Below.tape g
  have g3 : w'.output = w.output := Below.output g
  refine ⟨w'.drawn - w.drawn, w'.heap.extract w.heap.size w'.heap.size, ?_⟩
  have hh : w'.heap = w.heap ++ w'.heap.extract w.heap.size w'.heap.size := by
    apply Array.ext_getElem?
    intro i
    have hs := g.size
    by_cases hi : i < w.heap.size
    · rw [g.block hi, Array.getElem?_append, if_pos hi]
    · rw [Array.getElem?_append, if_neg hi, Array.getElem?_extract]
      by_cases h2 : i < w'.heap.size
      · rw [if_pos (by omega), show w.heap.size + (i - w.heap.size) = i by omega]
      · rw [if_neg (by omega), Array.getElem?_eq_none (by omega)]
  cases w'; cases w
  simp only [Sort.grow, World.drewN, World.mk.injEq]
  simp only at hh hd g1 g2 g3
  exact ⟨hh, g2, by omega, g1, g3⟩
theorem Lay.of_grow (w : World) (q : Nat) (os : Array Obj) : Lay w (Sort.grow (w.drewN q) os) :=
  ⟨⟨rfl, rfl, rfl, by simp, fun k hk => by rw [Sort.heap_grow_old _ _ (by exact hk)]; rfl⟩, Nat.le_add_right _ _⟩

/-- A callee that leaves the world alone, met in a region whose order is open. -/
theorem still_call {P : Program} {f : FuncId} {args : Array Value} {w : World} {n : Nat} {v : Value}
    (h : Calls P f args (w.drewN n) fun e w' => e = .returned v ∧ w.drewN n = w') : Calls P f args (w.drewN n) fun e w'' => e = .returned v ∧ ∃ m, w'' = w.drewN m :=
  h.mono fun _ _ hh => ⟨hh.1, n, hh.2.symm⟩

def cmpI (x y : Int) : Int := if x < y then -1 else if y < x then 1 else 0
def cmpS (x y : ByteArray) : Int := if Op.bytesLess x.toList y.toList = true then -1 else if (x.toList == y.toList) = true then 0 else 1
def orI (x y : Int) : Int := if x = 0 then y else x
def cmpB {n : Nat} (x y : Vector UInt8 n) : Int := Lib.compareBytes x.toList y.toList

set_option maxHeartbeats 400000 in
theorem isNaNI (x : Int) (w : World) : Calls Tryz.prog 70 #[.int .i64 x] w fun e w' => e = .returned (.bool false) ∧ w = w' := by
  go_enter Tryz.func70, Tryz.ntmps70
  go_wp2
  go_ret
  exact ⟨by simp, rfl⟩
set_option maxHeartbeats 400000 in
theorem isNaNS (x : ByteArray) (w : World) : Calls Tryz.prog 152 #[.string x] w fun e w' => e = .returned (.bool false) ∧ w = w' := by
  go_enter Tryz.func152, Tryz.ntmps152
  go_wp2
  go_ret
  exact ⟨by simp, rfl⟩
set_option maxHeartbeats 400000 in
theorem isNaNB (x : Int) (w : World) : Calls Tryz.prog 154 #[.int .u8 x] w fun e w' => e = .returned (.bool false) ∧ w = w' := by
  go_enter Tryz.func154, Tryz.ntmps154
  go_wp2
  go_ret
  exact ⟨by simp, rfl⟩
set_option maxHeartbeats 400000 in
theorem compareI (x y : Int) (w : World) : Calls Tryz.prog 42 #[.int .i64 x, .int .i64 y] w fun e w' => e = .returned (.int .i64 (cmpI x y)) ∧ w = w' := by
  go_enter Tryz.func42, Tryz.ntmps42
  go_wp2_with (go_at_call 70; refine (isNaNI _ _).mono ?_; rintro e w' ⟨rfl, rfl⟩)
  all_goals
    go_ret
    refine ⟨ret_int ?_, rfl⟩
    unfold cmpI
    repeat' split
    all_goals (try omega)
set_option maxHeartbeats 400000 in
theorem compareU (x y : Int) (w : World) : Calls Tryz.prog 113 #[.int .u8 x, .int .u8 y] w fun e w' => e = .returned (.int .i64 (cmpI x y)) ∧ w = w' := by
  go_enter Tryz.func113, Tryz.ntmps113
  go_wp2_with (go_at_call 154; refine (isNaNB _ _).mono ?_; rintro e w' ⟨rfl, rfl⟩)
  all_goals
    go_ret
    refine ⟨ret_int ?_, rfl⟩
    unfold cmpI
    repeat' split
    all_goals (try omega)
set_option maxHeartbeats 400000 in
theorem compareS (x y : ByteArray) (w : World) : Calls Tryz.prog 110 #[.string x, .string y] w fun e w' => e = .returned (.int .i64 (cmpS x y)) ∧ w = w' := by
  go_enter Tryz.func110, Tryz.ntmps110
  go_wp2_with (go_at_call 152; refine (isNaNS _ _).mono ?_; rintro e w' ⟨rfl, rfl⟩)
  all_goals
    go_ret
    refine ⟨ret_int ?_, rfl⟩
    unfold cmpS
    simp_all
/-- cmp.Or of two. -/
theorem or2 (b : Nat) (x y : Int) (w : World) (h0 : w.cell? ⟨b, 0, none⟩ = some (.int .i64 x)) (h1 : w.cell? ⟨b, 1, none⟩ = some (.int .i64 y)) :
    Calls Tryz.prog 41 #[.slice (some ⟨b, 0, none⟩) 2 2] w fun e w' => e = .returned (.int .i64 (orI x y)) ∧ w = w' := by
  by_cases hx : x = 0
  · subst hx
    by_cases hy : y = 0
    · subst hy
      have e1 : orI 0 0 = 0 := rfl
      have E1 := Lib.hid e1
      clear e1
      go_enter Tryz.func41, Tryz.ntmps41
      go_wp2
      refine wp_loop_rounds 3 ?_
      rw [rounds_succ]
      go_wp2
      rw [rounds_succ]
      go_wp2
      rw [rounds_succ]
      go_wp2
      go_ret
      exact ⟨ret_int E1.out.symm, rfl⟩
    · have e1 : orI 0 y = y := rfl
      have E1 := Lib.hid e1
      have hb : (y != 0) = true := by simpa using hy
      clear e1 hy
      go_enter Tryz.func41, Tryz.ntmps41
      go_wp2
      refine wp_loop_rounds 2 ?_
      rw [rounds_succ]
      go_wp2
      rw [rounds_succ]
      go_wp2
      go_ret
      exact ⟨ret_int E1.out.symm, rfl⟩
  · have e1 : orI x y = x := by unfold orI; rw [if_neg hx]
    have E1 := Lib.hid e1
    have hb : (x != 0) = true := by simpa using hx
    clear e1 hx
    go_enter Tryz.func41, Tryz.ntmps41
    go_wp2
    refine wp_loop_rounds 1 ?_
    rw [rounds_succ]
    go_wp2
    go_ret
    exact ⟨ret_int E1.out.symm, rfl⟩

/-! ### bytes -/
/-- The bytes x lie from a on. -/
def BytesAt (w : World) (b k : Nat) (x : List UInt8) : Prop := ∀ j (h : j < x.length), w.cell? ⟨b, k + j, none⟩ = some (.int .u8 (x[j].toNat : Int))
theorem cmpL_step (x y : List UInt8) (k : Nat) (hx : k < x.length) (hy : k < y.length) : Lib.compareBytes (x.drop k) (y.drop k) = orI (cmpI (x[k].toNat : Int) (y[k].toNat : Int)) (Lib.compareBytes (x.drop (k + 1)) (y.drop (k + 1))) := by
  rw [List.drop_eq_getElem_cons hx, List.drop_eq_getElem_cons hy]
  rw [Lib.compareBytes]
  generalize Lib.compareBytes (List.drop (k + 1) x) (List.drop (k + 1) y) = r
  rcases Nat.lt_trichotomy x[k].toNat y[k].toNat with c | c | c
  · have e : cmpI (x[k].toNat : Int) (y[k].toNat : Int) = -1 := by unfold cmpI; rw [if_pos (by omega)]
    rw [e, if_pos (UInt8.lt_iff_toNat_lt.2 c)]; rfl
  · have e : cmpI (x[k].toNat : Int) (y[k].toNat : Int) = 0 := by unfold cmpI; rw [if_neg (by omega), if_neg (by omega)]
    rw [e, if_neg (fun h => by have := UInt8.lt_iff_toNat_lt.1 h; omega), if_neg (fun h => by have := UInt8.lt_iff_toNat_lt.1 h; omega)]; rfl
  · have e : cmpI (x[k].toNat : Int) (y[k].toNat : Int) = 1 := by unfold cmpI; rw [if_neg (by omega), if_pos (by omega)]
    rw [e, if_neg (fun h => by have := UInt8.lt_iff_toNat_lt.1 h; omega), if_pos (UInt8.lt_iff_toNat_lt.2 c)]; rfl
theorem cmpI_ne {x y : UInt8} (h : x ≠ y) : cmpI (x.toNat : Int) (y.toNat : Int) ≠ 0 := by
  unfold cmpI
  have : x.toNat ≠ y.toNat := fun e => h (UInt8.toNat_inj.1 e)
  repeat' split
  all_goals omega
theorem cmpI_self (x : Int) : cmpI x x = 0 := by unfold cmpI; simp

set_option maxHeartbeats 1000000 in
theorem compareSl (b1 k1 c1 b2 k2 c2 : Nat) (x y : List UInt8) (w : World) (h1 : BytesAt w b1 k1 x) (h2 : BytesAt w b2 k2 y) (he : x.length = y.length) (hl : x.length ≤ 1000) :
    Calls Tryz.prog 71 #[.slice (some ⟨b1, k1, none⟩) x.length c1, .slice (some ⟨b2, k2, none⟩) y.length c2] w fun e w' => e = .returned (.int .i64 (Lib.compareBytes x y)) ∧ w = w' := by
  have H1 := Lib.hid h1; have H2 := Lib.hid h2
  have HE := Lib.hid he
  have hl2 : y.length ≤ x.length := by omega
  have hl3 : x.length ≤ y.length := by omega
  clear h1 h2 he
  go_enter Tryz.func71, Tryz.ntmps71
  go_wp2_with fail
  go_loop [5, 6, 7, 8, 11] (fun _ _ _ _ i => ∃ k : Nat, k ≤ x.length ∧ i = .int .i64 k ∧ Hid (Lib.compareBytes x y = Lib.compareBytes (x.drop k) (y.drop k))) (fun _ _ _ _ i => x.length - (intOf i).toNat)
  case atStart => exact ⟨0, Nat.zero_le _, rfl, rfl⟩
  case round =>
    obtain ⟨k, hk, rfl, hrel⟩ := hrel
    by_cases hlt : k < x.length
    · have hlt2 : k < y.length := by omega
      have g1 := H1.out k hlt
      have g2 := H2.out k hlt2
      have HS := Lib.hid (cmpL_step x y k hlt hlt2)
      by_cases hxy : x[k] = y[k]
      · rw [hxy] at g1
        rw [hxy] at HS
        have e0 := cmpI_self (y[k].toNat : Int)
        have E0 := Lib.hid e0
        clear e0 hxy
        generalize (y[k].toNat : Int) = z at *
        go_wp2_with (go_at_call 113; refine (compareU _ _ _).mono ?_; rintro e w' ⟨rfl, rfl⟩; rw [E0.out])
        go_round
        case rel => exact ⟨k + 1, by omega, by go_num, by show _ = _; rw [hrel.out, HS.out, E0.out]; rfl⟩
        case measure => simp [intOf]; omega
      · have e0 := cmpI_ne hxy
        have hb : (cmpI (x[k].toNat : Int) (y[k].toNat : Int) != 0) = true := by simpa using e0
        have E0 := Lib.hid e0
        clear e0 hxy
        go_wp2_with (go_at_call 113; refine (compareU _ _ _).mono ?_; rintro e w' ⟨rfl, rfl⟩)
        go_ret
        exact ⟨ret_int (by rw [hrel.out, HS.out]; unfold orI; rw [if_neg E0.out]), rfl⟩
    · have hd : Hid (Lib.compareBytes (x.drop k) (y.drop k) = 0) := by
        show _ = _
        rw [List.drop_of_length_le (by omega), List.drop_of_length_le (by omega)]; rfl
      go_wp2_with fail
      go_ret
      exact ⟨ret_int (by rw [hrel.out, hd.out]), rfl⟩

theorem bytesAt_new (w : World) (n t b : Nat) (x : Vector UInt8 n) (hb : b = w.heap.size) : BytesAt (w.alloc (.cells (bC x).toArray t)) b 0 x.toList := by
  intro j hj
  rw [World.cell?_alloc_at _ _ _ _ hb]
  simp only [bC, Nat.zero_add]
  simp at hj ⊢
  simp [hj]
theorem BytesAt.gr {w w' : World} {b k : Nat} {x : List UInt8} (h : BytesAt w b k x) (hg : Gr w w') (hb : b < w.heap.size) : BytesAt w' b k x := fun j hj => (hg.cell (p := ⟨b, k + j, none⟩) hb).trans (h j hj)
end Go.Proofs.YtemhfcfebkjioaaGreatDoor

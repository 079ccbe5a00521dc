/- The closure of EverModerator; registry.clone. -/
import Derived.Test.YtemhfcfebkjioaaGreatDoorCheck
import Derived.Test.YtemhfcfebkjioaaGreatDoorKeys
namespace Go.Proofs.YtemhfcfebkjioaaGreatDoor
open Go.RowKit

/-- Does a definition name the group and the author among its moderators? -/
def accB (d : Dfn) (l : List Aut) (g : ByteArray) (a : Aut) : Bool := (d.group.toList == g.toList) && hasA l a

set_option maxRecDepth 100000 in
set_option maxHeartbeats 1000000 in
theorem everClo (d : Dfn) (l : List Aut) (g : ByteArray) (x : Aut) (bg ba : Nat) (w : World) (h1 : w.cell? ⟨bg, 0, none⟩ = some (.string g)) (h2 : hasRow w ⟨ba, 0, none⟩ 16 = true) (h3 : rowAt w ⟨ba, 0, none⟩ 16 = bC x) (hv : AutsAt w d.mods l) (hl : l.length ≤ 1000000) :
    Calls Tryz.prog 68 #[.agg (dfnC d).toArray, .pointer (some ⟨bg, 0, none⟩), .pointer (some ⟨ba, 0, none⟩)] w fun e w' => e = .returned (.bool (accB d l g x)) ∧ Lay w w' := by
  have hg0 := (Lay.refl w).alloc (.cells (dfnC d).toArray 52)
  have HG := Lib.hid hg0
  have HV := Lib.hid (hv.gr hg0.1)
  obtain ⟨a, cap, hmods, _, _⟩ := hv
  simp only [List.length_map] at hmods
  rw [hmods] at HV
  have b1 := World.block_lt_of_cell? w _ h1
  have b2 := hasRow_lt h2 (by decide)
  have b1' : bg < w.heap.size := b1
  clear hg0 b1
  cases he : (d.group.toList == g.toList) with
  | true =>
    have hf : Hid (accB d l g x = hasA l x) := by show _ = _; unfold accB; rw [he]; rfl
    go_enter Tryz.func68, Tryz.ntmps68
    go_wp2_with fail
    refine (containsA l _ x _ HV.out hl).mono ?_
    rintro e w1 ⟨rfl, hg1⟩
    go_wp2_with fail
    go_ret
    exact ⟨ret_bool hf.out.symm, HG.out.trans hg1⟩
  | false =>
    have hf : Hid (accB d l g x = false) := by show _ = _; unfold accB; rw [he]; rfl
    go_enter Tryz.func68, Tryz.ntmps68
    go_wp2_with fail
    go_ret
    exact ⟨ret_bool hf.out.symm, HG.out⟩

/-! ### blocks written whole -/
theorem Gr.setCells {a : World} (b : Nat) (hb : a.heap.size ≤ b) : ∀ (cs : List Value) (k : Nat) (w : World), Gr a w → Gr a (w.setCells b k cs)
  | [], _, _, h => h
  | v :: cs, k, _, h => Gr.setCells b hb cs (k + 1) _ (h.setCell (p := ⟨b, k, none⟩) hb v)
theorem heap_setCells_whole {b : Nat} {t : TypeId} : ∀ (cs pre post : List Value), post.length = cs.length → ∀ w : World, w.heap[b]? = some (.cells (pre ++ post).toArray t (0, 0)) → (w.setCells b pre.length cs).heap[b]? = some (.cells (pre ++ cs).toArray t (0, 0))
  | [], pre, post, h, w, hw => by obtain rfl : post = [] := List.length_eq_zero_iff.1 h; exact hw
  | v :: cs, pre, post, h, w, hw => by
    obtain ⟨p, post', rfl⟩ : ∃ p q, post = p :: q := by cases post with | nil => simp at h | cons p q => exact ⟨p, q, rfl⟩
    have hs := heap_setCell_same w b pre.length _ t v hw
    have e : (pre ++ p :: post').toArray.setIfInBounds pre.length v = ((pre ++ [v]) ++ post').toArray := by simp
    rw [e] at hs
    have ih := heap_setCells_whole cs (pre ++ [v]) post' (by simpa using h) (w.setCell ⟨b, pre.length, none⟩ v) hs
    simp only [List.length_append, List.length_cons, List.length_nil, Nat.zero_add, List.append_assoc, List.cons_append, List.nil_append] at ih
    exact ih
theorem heap_setCells_at {w : World} {b : Nat} {t : TypeId} {z cs : List Value} (h : w.heap[b]? = some (.cells z.toArray t (0, 0))) (hl : z.length = cs.length) : (w.setCells b 0 cs).heap[b]? = some (.cells cs.toArray t (0, 0)) := by
  have := heap_setCells_whole cs [] z hl w (by simpa using h)
  simpa using this
theorem heap_setCells_ne (b b' : Nat) (hne : b' ≠ b) : ∀ (cs : List Value) (k : Nat) (w : World), (w.setCells b k cs).heap[b']? = w.heap[b']?
  | [], _, _ => rfl
  | v :: cs, k, w => (heap_setCells_ne b b' hne cs (k + 1) _).trans (heap_setCell_other w ⟨b, k, none⟩ b' v hne)
theorem size_setCells' (b : Nat) : ∀ (cs : List Value) (k : Nat) (w : World), (w.setCells b k cs).heap.size = w.heap.size
  | [], _, _ => rfl
  | v :: cs, k, w => (size_setCells' b cs (k + 1) _).trans (by simp)

/-- A definition with other memory for its moderators. -/
def withMods (d : Dfn) (v : Value) : Dfn := { d with mods := v }
def CloneDPost (d : Dfn) (l : List Aut) (w : World) (e : Ending) (w' : World) : Prop := ∃ a n c, e = .returned (.agg (dfnC (withMods d (.slice a n c))).toArray) ∧ AutsAt w' (.slice a n c) l ∧ Gr w w'
theorem dfn_one (d : Dfn) (a : Option Addr) (n c : Nat) : oneB (dfnC (withMods d (.slice a n c))) = true := by simp [dfnC, withMods, oneB_append, oneB_cons, oneB_bC, oneB_nil, Value.oneCell']
theorem after2 {w w1 : World} {A B : List Value} {t : TypeId} (hg : Gr ((w.alloc (.cells A.toArray t)).alloc (.cells B.toArray t)) w1) :
    w1.heap[w.heap.size]? = some (.cells A.toArray t (0, 0)) ∧ (∃ Z : List Value, Z.length = B.length ∧ w1.heap[w.heap.size + 1]? = some (.cells Z.toArray t (0, 0))) ∧ Gr w w1 ∧ w.heap.size + 1 < w1.heap.size := by
  obtain ⟨hl, s2, h1, h2⟩ := box2 w t A B
  exact ⟨(hg.block (by omega)).trans h1, ⟨B, rfl, (hg.block s2).trans h2⟩, hl.1.trans hg, Nat.lt_of_lt_of_le s2 hg.size⟩

set_option maxRecDepth 100000 in
set_option maxHeartbeats 2000000 in
theorem cloneD (d : Dfn) (l : List Aut) (w : World) (hv : AutsAt w d.mods l) (hl : l.length ≤ 1000000) :
    Calls Tryz.prog 65 #[.agg (dfnC d).toArray] w (CloneDPost d l w) := by
  obtain ⟨a, cap, hmods, _, _⟩ := id hv
  simp only [List.length_map] at hmods
  have HV := Lib.hid hv
  clear hv
  go_enter Tryz.func65, Tryz.ntmps65
  go_wp2_with fail
  refine (cloneA l _ _ ((hmods ▸ HV.out).gr ((((Gr.refl w).alloc _).alloc _))) hl).mono ?_
  rintro e w1 ⟨a', n', c', rfl, hau, hfr, hg1⟩
  obtain ⟨h1, ⟨Z, hZ, h2⟩, h3, h4⟩ := after2 hg1
  have hZ54 : Z.length = 54 := hZ
  have hfr' : ∀ x, a' = some x → w.heap.size + 2 ≤ x.block := fun x hx => by have := hfr x hx; simpa using this
  clear hZ hg1 hfr
  have q1 := (cell_block h1 52).trans (dfn_mods d)
  rw [hmods] at q1
  have q2 : w1.frozen? ⟨w.heap.size, 52, none⟩ = false := frozen_of_row w1 _ _ _ _ h1
  have s1 := heap_setCell_same w1 w.heap.size 52 _ _ (.slice a' n' c') h1
  have e1 : (dfnC d).toArray.setIfInBounds 52 (.slice a' n' c') = (dfnC (withMods d (.slice a' n' c'))).toArray := by
    rw [List.setIfInBounds_toArray, dfn_setmods]; rfl
  rw [e1] at s1
  have s2 := (heap_setCell_other w1 ⟨w.heap.size, 52, none⟩ (w.heap.size + 1) (.slice a' n' c') (by simp)).trans h2
  have k1 := hasRow_block s1 0 54 (by rw [dfnC_length]; decide)
  have k2 := (rowAt_block s1 0 54 (by rw [dfnC_length]; decide)).trans (dfn_whole _)
  have k3 := hasRow_block s2 0 54 (by omega)
  have k4 := freeRow_block s2 0 54
  have k5 := dfn_one d a' n' c'
  have S2 := Lib.hid s2; have H3 := Lib.hid h3; have HA := Lib.hid hau; have HF := Lib.hid hfr'
  have hsz4 := h4
  clear h1 h2 s1 s2 h3 hau hfr' e1
  go_wp2_with fail
  have hw := heap_setCells_at (cs := dfnC (withMods d (.slice a' n' c'))) S2.out (by rw [dfnC_length]; exact hZ54)
  refine bodyPost_ret (v := .agg (dfnC (withMods d (.slice a' n' c'))).toArray) (results_cell_row rfl _ _ (w.heap.size + 1) _ _ _ _ rfl hw Tryz.underlying52 rfl (by rw [List.size_toArray, dfnC_length]; kernel_rfl)) rfl ?_
  refine ⟨a', n', c', rfl, HA.out.keep (fun x hx => ?_) ?_, ?_⟩
  · have := HF.out x hx
    rw [heap_setCells_ne _ _ (by omega), heap_setCell_other _ _ _ _ (by show _ ≠ _; simp; omega)]
  · rw [size_setCells']; simp
  · exact Gr.setCells _ (by omega) _ _ _ (H3.out.setCell (p := ⟨w.heap.size, 52, none⟩) (Nat.le_refl _) _)
end Go.Proofs.YtemhfcfebkjioaaGreatDoor

/- Fields stored into a command that lies in a new block. -/
import Derived.Test.YtcdcmohccbhchaaGreatDoorKEql
namespace Go.Proofs.YtcdcmohccbhchaaGreatDoor
open Go.RowKit

theorem setCells_mid (w : World) (t : TypeId) (b : Nat) (hb : b = w.heap.size) (post : List Value) : ∀ (l pre mid : List Value), mid.length = l.length →
    (w.alloc (.cells (pre ++ (mid ++ post)).toArray t)).setCells b pre.length l = w.alloc (.cells (pre ++ (l ++ post)).toArray t)
  | [], pre, mid, h => by obtain rfl : mid = [] := List.length_eq_zero_iff.1 h; rfl
  | v :: l, pre, mid, h => by
    obtain ⟨p, mid', rfl⟩ : ∃ p q, mid = p :: q := by cases mid with | nil => simp at h | cons p q => exact ⟨p, q, rfl⟩
    show (World.setCells ((w.alloc _).setCell ⟨b, pre.length, none⟩ v) b (pre.length + 1) l) = _
    rw [World.setCell_alloc_at _ _ _ _ _ hb]
    have e : (pre ++ (p :: mid' ++ post)).toArray.setIfInBounds pre.length v = ((pre ++ [v]) ++ (mid' ++ post)).toArray := by simp
    rw [e]
    have := setCells_mid w t b hb post l (pre ++ [v]) mid' (by simpa using h)
    simp only [List.length_append, List.length_cons, List.length_nil, Nat.zero_add, List.append_assoc, List.cons_append, List.nil_append] at this ⊢
    exact this
section
variable (w : World) (t : TypeId) (b : Nat) (c : Cm) (v : Value)
@[go_sem ↓ high] theorem st_target (i : Id) (hb : b = w.heap.size) : (w.alloc (.cells (cmC c v).toArray t)).setCells b 1 (bC i) = w.alloc (.cells (cmC { c with target := i } v).toArray t) :=
  setCells_mid w t b hb ([Value.string c.group, .int .i64 c.version, .bool c.moderated, v, .string c.text, .int .i64 c.number] ++ pubC c.height c.root) (bC i) [.int .i64 c.kind] (bC c.target) (by rw [bC_length, bC_length])
theorem cm_pre : cmC c v = ([.int .i64 c.kind] ++ (bC c.target ++ [Value.string c.group, .int .i64 c.version, .bool c.moderated, v, .string c.text, .int .i64 c.number])) ++ (pubC c.height c.root ++ []) := by simp [cmC]
@[go_sem ↓ high] theorem st_pub (h : Int) (r : Aut) (hb : b = w.heap.size) : (w.alloc (.cells (cmC c v).toArray t)).setCells b 39 (pubC h r) = w.alloc (.cells (cmC { c with height := h, root := r } v).toArray t) := by
  have e := setCells_mid w t b hb [] (pubC h r) ([.int .i64 c.kind] ++ (bC c.target ++ [Value.string c.group, .int .i64 c.version, .bool c.moderated, v, .string c.text, .int .i64 c.number])) (pubC c.height c.root) (by rw [pubC_length, pubC_length])
  rw [show ([Value.int .i64 c.kind] ++ (bC c.target ++ [Value.string c.group, .int .i64 c.version, .bool c.moderated, v, .string c.text, .int .i64 c.number])).length = 39 by simp [bC_length]] at e
  rw [cm_pre c v, cm_pre { c with height := h, root := r } v]; exact e
theorem cm_set (k : Nat) (x : Value) (h : 33 ≤ k) : (cmC c v).set k x = [.int .i64 c.kind] ++ (bC c.target ++ (([Value.string c.group, .int .i64 c.version, .bool c.moderated, v, .string c.text, .int .i64 c.number] ++ pubC c.height c.root).set (k - 33) x)) := by
  unfold cmC
  rw [List.set_append_right _ _ (by simp; omega), List.set_append_right _ _ (by rw [bC_length]; simp; omega), bC_length]
  rw [show k - [Value.int .i64 c.kind].length - 32 = k - 33 by simp; omega]
theorem st_one (k : Nat) (x : Value) (c' : Cm) (v' : Value) (hb : b = w.heap.size) (h : (cmC c v).set k x = cmC c' v') : (w.alloc (.cells (cmC c v).toArray t)).setCell ⟨b, k, none⟩ x = w.alloc (.cells (cmC c' v').toArray t) := by
  rw [World.setCell_alloc_at _ _ _ _ _ hb, ← h]; simp
@[go_sem ↓ high] theorem st_group (g : ByteArray) (hb : b = w.heap.size) : (w.alloc (.cells (cmC c v).toArray t)).setCell ⟨b, 33, none⟩ (.string g) = w.alloc (.cells (cmC { c with group := g } v).toArray t) := st_one w t b c v 33 _ _ _ hb (by rw [cm_set _ _ _ _ (by decide)]; rfl)
@[go_sem ↓ high] theorem st_version (n : Int) (hb : b = w.heap.size) : (w.alloc (.cells (cmC c v).toArray t)).setCell ⟨b, 34, none⟩ (.int .i64 n) = w.alloc (.cells (cmC { c with version := n } v).toArray t) := st_one w t b c v 34 _ _ _ hb (by rw [cm_set _ _ _ _ (by decide)]; rfl)
@[go_sem ↓ high] theorem st_moderated (m : Bool) (hb : b = w.heap.size) : (w.alloc (.cells (cmC c v).toArray t)).setCell ⟨b, 35, none⟩ (.bool m) = w.alloc (.cells (cmC { c with moderated := m } v).toArray t) := st_one w t b c v 35 _ _ _ hb (by rw [cm_set _ _ _ _ (by decide)]; rfl)
@[go_sem ↓ high] theorem st_mods (a : Option Addr) (n p : Nat) (hb : b = w.heap.size) : (w.alloc (.cells (cmC c v).toArray t)).setCell ⟨b, 36, none⟩ (.slice a n p) = w.alloc (.cells (cmC c (.slice a n p)).toArray t) := st_one w t b c v 36 _ _ _ hb (by rw [cm_set _ _ _ _ (by decide)]; rfl)
@[go_sem ↓ high] theorem st_text (g : ByteArray) (hb : b = w.heap.size) : (w.alloc (.cells (cmC c v).toArray t)).setCell ⟨b, 37, none⟩ (.string g) = w.alloc (.cells (cmC { c with text := g } v).toArray t) := st_one w t b c v 37 _ _ _ hb (by rw [cm_set _ _ _ _ (by decide)]; rfl)
@[go_sem ↓ high] theorem st_number (n : Int) (hb : b = w.heap.size) : (w.alloc (.cells (cmC c v).toArray t)).setCell ⟨b, 38, none⟩ (.int .i64 n) = w.alloc (.cells (cmC { c with number := n } v).toArray t) := st_one w t b c v 38 _ _ _ hb (by rw [cm_set _ _ _ _ (by decide)]; rfl)
end

@[go_sem ↓ high] theorem zeroCm (w : World) : Sem.run Tryz.prog (zeroValue 37) w = .ok (.agg (cmC (cm0 0) nilV).toArray) w := by kernel_rfl
@[go_sem] theorem oneCmN (c : Cm) : oneB (cmC c nilV) = true := cm_one c nilV rfl
@[go_sem] theorem oneCmS (c : Cm) (a : Option Addr) (n k : Nat) : oneB (cmC c (.slice a n k)) = true := cm_one c _ rfl

/-- The slice of moderators that is left when a command is stripped. -/
def stripV (c : Cm) (v : Value) : Value := if c.kind = 3 then nilV else v
theorem nil_auts (w : World) : AutsAt w nilV [] := ⟨none, 0, rfl, Nat.le_refl _, fun j hj => by simp at hj⟩
theorem strip_auts {w : World} {c : Cm} {v : Value} (h : AutsAt w v c.mods) : AutsAt w (stripV c v) (strip c).mods := by
  unfold stripV strip
  by_cases h3 : c.kind = 3
  · rw [if_pos h3, if_neg (by omega), if_neg (by omega), if_pos h3]; exact nil_auts w
  · rw [if_neg h3]
    repeat' split
    all_goals first | exact h | (exfalso; omega)
theorem strip_mods_len (c : Cm) : (strip c).mods.length ≤ c.mods.length := by
  unfold strip
  repeat' split
  all_goals first | exact Nat.le_refl _ | exact Nat.zero_le _
end Go.Proofs.YtcdcmohccbhchaaGreatDoor

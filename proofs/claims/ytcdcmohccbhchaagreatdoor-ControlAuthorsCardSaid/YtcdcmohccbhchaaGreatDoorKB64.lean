/- Base64 (plain): bits regrouped; the text of bytes and back. -/
import Derived.Test.YtcdcmohccbhchaaGreatDoorKHex
namespace Go.Proofs.YtcdcmohccbhchaaGreatDoor
open Go.RowKit

/-! ### bits -/
def valB (l : List Bool) : Nat := l.foldl (fun n b => 2 * n + b.toNat) 0
theorem valB_snoc (l : List Bool) (b : Bool) : valB (l ++ [b]) = 2 * valB l + b.toNat := by simp [valB]
theorem valB_app (a : List Bool) : ∀ b : List Bool, valB (a ++ b) = valB a * 2 ^ b.length + valB b := by
  intro b
  have gen : ∀ (n : Nat) (b : List Bool), b.length = n → valB (a ++ b) = valB a * 2 ^ b.length + valB b := by
    intro n
    induction n with
    | zero => intro b h; rw [List.length_eq_zero_iff.1 h]; simp [valB]
    | succ n ih =>
      intro b h
      rcases List.eq_nil_or_concat b with rfl | ⟨t, c, rfl⟩
      · simp at h
      · rw [List.concat_eq_append] at *
        have ht : t.length = n := by simpa using h
        rw [← List.append_assoc, valB_snoc, valB_snoc, ih t ht, List.length_append, List.length_singleton, Nat.pow_succ, Nat.mul_add, ← Nat.mul_assoc (valB a) _ 2, Nat.mul_comm 2 (valB a * 2 ^ t.length), Nat.add_assoc]
  exact gen b.length b rfl
theorem valB_lt : ∀ l : List Bool, valB l < 2 ^ l.length := by
  intro l
  have gen : ∀ (n : Nat) (l : List Bool), l.length = n → valB l < 2 ^ l.length := by
    intro n
    induction n with
    | zero => intro b h; rw [List.length_eq_zero_iff.1 h]; decide
    | succ n ih =>
      intro b h
      rcases List.eq_nil_or_concat b with rfl | ⟨t, c, rfl⟩
      · simp at h
      · rw [List.concat_eq_append] at *
        have := ih t (by simpa using h)
        rw [valB_snoc, List.length_append, List.length_singleton, Nat.pow_succ]
        cases c <;> simp [Bool.toNat] <;> omega
  exact gen l.length l rfl
/-- The k lowest bits of a number, the greatest first. -/
def bitsK : Nat → Nat → List Bool
  | 0, _ => []
  | k + 1, v => bitsK k (v / 2) ++ [v % 2 == 1]
theorem bitsK_len : ∀ k v, (bitsK k v).length = k
  | 0, _ => rfl
  | k + 1, v => by rw [bitsK, List.length_append, bitsK_len k]; rfl
theorem valB_bitsK : ∀ k v, v < 2 ^ k → valB (bitsK k v) = v
  | 0, v, h => by have : v = 0 := by simpa using h
                  rw [this]; rfl
  | k + 1, v, h => by
    rw [bitsK, valB_snoc, valB_bitsK k (v / 2) (by rw [Nat.pow_succ] at h; omega)]
    have : (v % 2 == 1).toNat = v % 2 := by
      rcases Nat.mod_two_eq_zero_or_one v with e | e <;> rw [e] <;> rfl
    rw [this]; omega
theorem bitsK_valB : ∀ (k : Nat) (l : List Bool), l.length = k → bitsK k (valB l) = l
  | 0, l, h => by rw [List.length_eq_zero_iff.1 h]; rfl
  | k + 1, l, h => by
    rcases List.eq_nil_or_concat l with rfl | ⟨t, c, rfl⟩
    · simp at h
    · rw [List.concat_eq_append] at *
      rw [bitsK, valB_snoc]
      have ht : t.length = k := by simpa using h
      have e1 : (2 * valB t + c.toNat) / 2 = valB t := by cases c <;> simp [Bool.toNat] <;> omega
      have e2 : ((2 * valB t + c.toNat) % 2 == 1) = c := by cases c <;> simp [Bool.toNat] <;> omega
      rw [e1, e2, bitsK_valB k t ht]
/-- Whole groups of k bits, and what is left. -/
def grpN (k : Nat) : Nat → List Bool → List Nat × List Bool
  | 0, l => ([], l)
  | f + 1, l => if l.length < k then ([], l) else (valB (l.take k) :: (grpN k f (l.drop k)).1, (grpN k f (l.drop k)).2)
def grp (k : Nat) (l : List Bool) : List Nat × List Bool := grpN k l.length l
theorem grpN_enough (k : Nat) (hk : 0 < k) : ∀ (f g : Nat) (l : List Bool), l.length ≤ f → l.length ≤ g → grpN k f l = grpN k g l
  | 0, 0, _, _, _ => rfl
  | 0, g + 1, l, h, _ => by rw [grpN, grpN, if_pos (by omega)]
  | f + 1, 0, l, _, h => by rw [grpN, grpN, if_pos (by omega)]
  | f + 1, g + 1, l, h1, h2 => by
    rw [grpN, grpN]
    split
    · rfl
    · rw [grpN_enough k hk f g (l.drop k) (by simp; omega) (by simp; omega)]
theorem grp_short {k : Nat} {l : List Bool} (h : l.length < k) : grp k l = ([], l) := by
  unfold grp
  cases e : l.length with
  | zero => rfl
  | succ n => rw [grpN, if_pos h]
theorem grp_cons {k : Nat} (hk : 0 < k) {a l : List Bool} (h : a.length = k) : grp k (a ++ l) = (valB a :: (grp k l).1, (grp k l).2) := by
  unfold grp
  rw [List.length_append, h]
  obtain ⟨j, rfl⟩ := Nat.exists_eq_succ_of_ne_zero (Nat.ne_of_gt hk)
  rw [Nat.succ_add, grpN, if_neg (by simp [h]), List.take_left' h, List.drop_left' h, grpN_enough _ hk (j + l.length) l.length l (by omega) (Nat.le_refl _)]
theorem grp_step {k : Nat} (hk : 0 < k) {l : List Bool} (h : k ≤ l.length) : grp k l = (valB (l.take k) :: (grp k (l.drop k)).1, (grp k (l.drop k)).2) := by
  have := grp_cons hk (a := l.take k) (l := l.drop k) (by rw [List.length_take]; omega)
  rwa [List.take_append_drop] at this
theorem grp_left {k : Nat} (hk : 0 < k) : ∀ (n : Nat) (l : List Bool), l.length ≤ n → (grp k l).2.length < k
  | 0, l, h => by rw [grp_short (by omega)]; show l.length < k; omega
  | n + 1, l, h => by
    by_cases hs : l.length < k
    · rw [grp_short hs]; exact hs
    · rw [grp_step hk (by omega)]; exact grp_left hk n (l.drop k) (by simp; omega)
theorem grp_app {k : Nat} (hk : 0 < k) : ∀ (n : Nat) (a b : List Bool), a.length ≤ n → grp k (a ++ b) = ((grp k a).1 ++ (grp k ((grp k a).2 ++ b)).1, (grp k ((grp k a).2 ++ b)).2)
  | 0, a, b, h => by
    have e : a = [] := List.length_eq_zero_iff.1 (by omega)
    subst e
    rw [grp_short (k := k) (l := []) hk]; rfl
  | n + 1, a, b, h => by
    by_cases hs : a.length < k
    · rw [grp_short hs]; rfl
    · rw [grp_step hk (l := a) (by omega), grp_step hk (l := a ++ b) (by simp; omega), List.take_append_of_le_length (by omega), List.drop_append_of_le_length (by omega), grp_app hk n (a.drop k) b (by simp; omega)]
      rfl
theorem grp_flat {k : Nat} (hk : 0 < k) : ∀ (vs : List Nat) (r : List Bool), (∀ v ∈ vs, v < 2 ^ k) → r.length < k → grp k (vs.flatMap (bitsK k) ++ r) = (vs, r)
  | [], r, _, hr => grp_short hr
  | v :: vs, r, h, hr => by
    rw [List.flatMap_cons, List.append_assoc, grp_cons hk (bitsK_len k v), valB_bitsK k v (h v (by simp)), grp_flat hk vs r (fun x hx => h x (by simp [hx])) hr]
theorem grp_back {k : Nat} (hk : 0 < k) : ∀ (n : Nat) (l : List Bool), l.length ≤ n → (grp k l).1.flatMap (bitsK k) ++ (grp k l).2 = l ∧ ∀ v ∈ (grp k l).1, v < 2 ^ k
  | 0, l, h => by
    have e : l = [] := List.length_eq_zero_iff.1 (by omega)
    subst e
    rw [grp_short (k := k) (l := []) hk]; exact ⟨rfl, fun v hv => by cases hv⟩
  | n + 1, l, h => by
    by_cases hs : l.length < k
    · rw [grp_short hs]; exact ⟨rfl, fun v hv => by cases hv⟩
    · have hl : (l.take k).length = k := by rw [List.length_take]; omega
      obtain ⟨e1, e2⟩ := grp_back hk n (l.drop k) (by simp; omega)
      rw [grp_step hk (by omega)]
      refine ⟨?_, fun v hv => ?_⟩
      · show (valB (l.take k) :: (grp k (l.drop k)).1).flatMap (bitsK k) ++ (grp k (l.drop k)).2 = l
        rw [List.flatMap_cons, bitsK_valB k _ hl, List.append_assoc, e1, List.take_append_drop]
      · rcases List.mem_cons.1 hv with rfl | hv
        · have := valB_lt (l.take k); rwa [hl] at this
        · exact e2 v hv
end Go.Proofs.YtcdcmohccbhchaaGreatDoor

/- Base64 (plain): the text of bytes, the bytes of a text, and back; public keys. -/
import Derived.Test.YtcdcmohccbhchaaGreatDoorKB64
namespace Go.Proofs.YtcdcmohccbhchaaGreatDoor
open Go.RowKit

def b64S : Str := [65, 66, 67, 68, 69, 70, 71, 72, 73, 74, 75, 76, 77, 78, 79, 80, 81, 82, 83, 84, 85, 86, 87, 88, 89, 90, 97, 98, 99, 100, 101, 102, 103, 104, 105, 106, 107, 108, 109, 110, 111, 112, 113, 114, 115, 116, 117, 118, 119, 120, 121, 122, 48, 49, 50, 51, 52, 53, 54, 55, 56, 57, 43, 47]
def b64C (v : Nat) : UInt8 := b64S.getD v 0
def b64V (c : UInt8) : Int := Lib.indexByte b64S c
def b64B (c : UInt8) : Bool := decide (0 ≤ b64V c)
theorem b64C_fin : ∀ i : Fin 64, b64V (b64C i.val) = i.val ∧ b64C i.val ≠ 61 ∧ b64C i.val ≠ 32 ∧ b64C i.val ≠ 44 ∧ 32 < b64C i.val ∧ b64C i.val < 127 := by decide +kernel
theorem b64C_at {i : Nat} (h : i < 64) : b64V (b64C i) = i ∧ b64C i ≠ 61 ∧ b64C i ≠ 32 ∧ b64C i ≠ 44 ∧ 32 < b64C i ∧ b64C i < 127 := b64C_fin ⟨i, h⟩
theorem b64_back : ∀ c : UInt8, b64B c = true → b64C (b64V c).toNat = c ∧ (b64V c).toNat < 64 := all_u8 (by decide +kernel)
theorem b64_pad : b64B 61 = false := by decide +kernel

/-- What follows the whole groups: one group more, filled up with zeros. -/
def encB (r : List Nat × List Bool) : Str := r.1.map b64C ++ (if r.2 = [] then [] else [b64C (valB r.2 * 2 ^ (6 - r.2.length))])
def padT (t : Str) : Str := t ++ List.replicate ((4 - t.length % 4) % 4) 61
def bits8 (l : List UInt8) : List Bool := l.flatMap fun b => bitsK 8 b.toNat
def encL (l : List UInt8) : Str := padT (encB (grp 6 (bits8 l)))

/-- The characters ahead of those = that are in place. -/
def datN (s : Str) : Nat :=
  if s.length = 0 ∨ s.length % 4 ≠ 0 ∨ s.getD (s.length - 1) 0 ≠ 61 then s.length else if s.getD (s.length - 2) 0 = 61 then s.length - 2 else s.length - 1
def bits6 (s : Str) : List Bool := s.flatMap fun c => bitsK 6 (b64V c).toNat
def decR (s : Str) : List Nat × List Bool := grp 8 (bits6 (s.take (datN s)))
def badB64 (s : Str) : Nat := ((s.take (datN s)).takeWhile b64B).length
def decE (s : Str) : Int :=
  if 174764 < s.length then 5 else if badB64 s < datN s then 6 else if s.length % 4 ≠ 0 then 4 else if valB (decR s).2 ≠ 0 then 3 else 0
def decB (s : Str) : List UInt8 := (decR s).1.map UInt8.ofNat

theorem valB_zero : ∀ (l : List Bool), valB l = 0 → l = List.replicate l.length false := by
  intro l
  have gen : ∀ (n : Nat) (l : List Bool), l.length = n → valB l = 0 → l = List.replicate n false := by
    intro n
    induction n with
    | zero => intro l h _; rw [List.length_eq_zero_iff.1 h]; rfl
    | succ n ih =>
      intro l h hv
      rcases List.eq_nil_or_concat l with rfl | ⟨t, c, rfl⟩
      · simp at h
      · rw [List.concat_eq_append] at *
        rw [valB_snoc] at hv
        have hc : c = false := by cases c <;> simp [Bool.toNat] at hv ⊢
        have ht : t.length = n := by simpa using h
        have := ih t ht (by omega)
        rw [this, hc]; simp [List.replicate_succ']
  exact gen l.length l rfl
theorem valB_repl (n : Nat) : valB (List.replicate n false) = 0 := by
  induction n with
  | zero => rfl
  | succ n ih => rw [List.replicate_succ', valB_snoc, ih]; rfl
theorem bits8_len (l : List UInt8) : (bits8 l).length = 8 * l.length := by
  induction l with
  | nil => rfl
  | cons b l ih => unfold bits8 at *; rw [List.flatMap_cons, List.length_append, ih, bitsK_len, List.length_cons]; omega
theorem bits6_len (s : Str) : (bits6 s).length = 6 * s.length := by
  induction s with
  | nil => rfl
  | cons b l ih => unfold bits6 at *; rw [List.flatMap_cons, List.length_append, ih, bitsK_len, List.length_cons]; omega
theorem grp_len {k : Nat} (hk : 0 < k) (l : List Bool) : k * (grp k l).1.length + (grp k l).2.length = l.length := by
  have h := (grp_back hk l.length l (Nat.le_refl _)).1
  have e : ∀ vs : List Nat, (vs.flatMap (bitsK k)).length = k * vs.length := by
    intro vs
    induction vs with
    | nil => rfl
    | cons v vs ih => rw [List.flatMap_cons, List.length_append, ih, bitsK_len, List.length_cons, Nat.mul_succ]; omega
  have := congrArg List.length h
  rw [List.length_append, e] at this
  exact this
/-- The data characters of an encoding, as groups of bits. -/
theorem bits6_map (vs : List Nat) (h : ∀ v ∈ vs, v < 64) : bits6 (vs.map b64C) = vs.flatMap (bitsK 6) := by
  induction vs with
  | nil => rfl
  | cons v vs ih =>
    unfold bits6 at *
    rw [List.map_cons, List.flatMap_cons, List.flatMap_cons, ih (fun x hx => h x (by simp [hx])), (b64C_at (h v (by simp))).1]; rfl
theorem bits6_encB (l : List Bool) : ∃ p, p < 6 ∧ bits6 (encB (grp 6 l)) = l ++ List.replicate p false ∧ (encB (grp 6 l)).all b64B = true := by
  obtain ⟨h1, h2⟩ := grp_back (k := 6) (by decide) l.length l (Nat.le_refl _)
  have h3 := grp_left (k := 6) (by decide) l.length l (Nat.le_refl _)
  generalize grp 6 l = r at *
  obtain ⟨vs, rm⟩ := r
  simp only at h1 h2 h3
  have hv : (vs.map b64C).all b64B = true := by
    rw [List.all_eq_true]; intro c hc
    obtain ⟨v, hv, rfl⟩ := List.mem_map.1 hc
    unfold b64B; rw [(b64C_at (h2 v hv)).1]; simp
  unfold encB
  by_cases hr : rm = []
  · refine ⟨0, by decide, ?_, by simpa [hr] using hv⟩
    rw [if_pos hr, List.append_nil, bits6_map vs h2, ← h1, hr]; simp
  · have hlt := valB_lt rm
    have hlt2 : valB rm * 2 ^ (6 - rm.length) < 64 := by
      have e : 2 ^ rm.length * 2 ^ (6 - rm.length) = 64 := by rw [← Nat.pow_add, show rm.length + (6 - rm.length) = 6 by omega]
      rw [← e]; exact Nat.mul_lt_mul_of_pos_right hlt (Nat.pow_pos (by decide))
    refine ⟨6 - rm.length, ?_, ?_, ?_⟩
    · have : 0 < rm.length := List.length_pos_iff.2 hr
      omega
    · rw [if_neg hr]
      have e1 : bits6 (vs.map b64C ++ [b64C (valB rm * 2 ^ (6 - rm.length))]) = bits6 (vs.map b64C) ++ bits6 [b64C (valB rm * 2 ^ (6 - rm.length))] := by unfold bits6; rw [List.flatMap_append]
      have e2 : bits6 [b64C (valB rm * 2 ^ (6 - rm.length))] = rm ++ List.replicate (6 - rm.length) false := by
        have : bits6 [b64C (valB rm * 2 ^ (6 - rm.length))] = bitsK 6 (valB rm * 2 ^ (6 - rm.length)) := by
          have := bits6_map [valB rm * 2 ^ (6 - rm.length)] (by intro v hv; rw [List.mem_singleton.1 hv]; exact hlt2)
          simpa using this
        rw [this]
        have e3 : valB (rm ++ List.replicate (6 - rm.length) false) = valB rm * 2 ^ (6 - rm.length) := by rw [valB_app, valB_repl, List.length_replicate, Nat.add_zero]
        rw [← e3, bitsK_valB 6 _ (by simp; omega)]
      rw [e1, e2, bits6_map vs h2, ← h1, List.append_assoc]
    · have hb : b64B (b64C (valB rm * 2 ^ (6 - rm.length))) = true := by
        unfold b64B; rw [(b64C_at hlt2).1]; exact decide_eq_true (Int.natCast_nonneg _)
      rw [if_neg hr, List.all_append, hv, List.all_cons, hb]; rfl

theorem bits8_eq (l : List UInt8) : bits8 l = (l.map UInt8.toNat).flatMap (bitsK 8) := by
  unfold bits8; rw [List.flatMap_map]
theorem getD_app_l {a b : Str} {k : Nat} (h : k < a.length) : (a ++ b).getD k 0 = a.getD k 0 := by
  rw [List.getD_eq_getElem?_getD, List.getElem?_append_left h, ← List.getD_eq_getElem?_getD]
theorem getD_app_r {a b : Str} {k : Nat} (h : a.length ≤ k) : (a ++ b).getD k 0 = b.getD (k - a.length) 0 := by
  rw [List.getD_eq_getElem?_getD, List.getElem?_append_right h, ← List.getD_eq_getElem?_getD]
theorem getD_all {p : UInt8 → Bool} {s : Str} (h : s.all p = true) {k : Nat} (hk : k < s.length) : p (s.getD k 0) = true := by
  rw [List.getD_eq_getElem?_getD, List.getElem?_eq_getElem hk]
  exact List.all_eq_true.1 h _ (List.getElem_mem hk)
theorem takeWhile_app_all {p : UInt8 → Bool} : ∀ {s : Str}, s.all p = true → (s.takeWhile p).length = s.length
  | [], _ => rfl
  | c :: s, h => by
    simp only [List.all_cons, Bool.and_eq_true] at h
    rw [List.takeWhile_cons, if_pos h.1, List.length_cons, takeWhile_app_all h.2, List.length_cons]
theorem all_of_takeWhile {p : UInt8 → Bool} : ∀ {s : Str}, s.length ≤ (s.takeWhile p).length → s.all p = true
  | [], _ => rfl
  | c :: s, h => by
    rw [List.takeWhile_cons] at h
    split at h
    · rename_i hc
      rw [List.all_cons, hc, all_of_takeWhile (by simpa using h)]; rfl
    · simp at h
/-- The text of bytes is read as these bytes. -/
theorem enc_shape (l : List UInt8) : ∃ t p, encL l = padT t ∧ t.all b64B = true ∧ bits6 t = bits8 l ++ List.replicate p false ∧ p < 6 ∧ 6 * t.length = 8 * l.length + p := by
  obtain ⟨p, hp, hb, hall⟩ := bits6_encB (bits8 l)
  refine ⟨encB (grp 6 (bits8 l)), p, rfl, hall, hb, hp, ?_⟩
  have := congrArg List.length hb
  rw [bits6_len, List.length_append, bits8_len, List.length_replicate] at this
  exact this
theorem datN_pad {t : Str} (ht : t.all b64B = true) (h4 : t.length % 4 ≠ 1) : datN (padT t) = t.length ∧ (padT t).length % 4 = 0 ∧ (padT t).take t.length = t := by
  have hne : ∀ k, k < t.length → t.getD k 0 ≠ 61 := fun k hk e => by have := getD_all ht hk; rw [e, b64_pad] at this; cases this
  unfold padT
  have hlen : (t ++ List.replicate ((4 - t.length % 4) % 4) 61).length = t.length + (4 - t.length % 4) % 4 := by simp
  refine ⟨?_, by rw [hlen]; omega, List.take_left⟩
  unfold datN
  rw [hlen]
  have cases4 : t.length % 4 = 0 ∨ t.length % 4 = 2 ∨ t.length % 4 = 3 := by omega
  rcases cases4 with c | c | c
  · have e0 : (4 - t.length % 4) % 4 = 0 := by omega
    rw [e0, Nat.add_zero, List.replicate_zero, List.append_nil]
    by_cases h0 : t.length = 0
    · rw [if_pos (.inl h0)]
    · rw [if_pos (.inr (.inr (hne _ (by omega))))]
  · have e0 : (4 - t.length % 4) % 4 = 2 := by omega
    rw [e0]
    have g1 : (t ++ List.replicate 2 61).getD (t.length + 2 - 1) 0 = 61 := by rw [getD_app_r (by omega), show t.length + 2 - 1 - t.length = 1 by omega]; rfl
    have g2 : (t ++ List.replicate 2 61).getD (t.length + 2 - 2) 0 = 61 := by rw [getD_app_r (by omega), show t.length + 2 - 2 - t.length = 0 by omega]; rfl
    rw [if_neg (by rw [g1]; rintro (h | h | h) <;> first | omega | exact h rfl), if_pos g2]; omega
  · have e0 : (4 - t.length % 4) % 4 = 1 := by omega
    rw [e0]
    have g1 : (t ++ List.replicate 1 61).getD (t.length + 1 - 1) 0 = 61 := by rw [getD_app_r (by omega), show t.length + 1 - 1 - t.length = 0 by omega]; rfl
    have g2 : (t ++ List.replicate 1 61).getD (t.length + 1 - 2) 0 ≠ 61 := by rw [getD_app_l (by omega)]; exact hne _ (by omega)
    rw [if_neg (by rw [g1]; rintro (h | h | h) <;> first | omega | exact h rfl), if_neg g2]; omega
theorem dec_enc (l : List UInt8) (hl : l.length ≤ 1000) : decE (encL l) = 0 ∧ decB (encL l) = l := by
  obtain ⟨t, p, he, hall, hb, hp, hlen⟩ := enc_shape l
  obtain ⟨d1, d2, d3⟩ := datN_pad hall (by omega)
  have hr : decR (encL l) = (l.map UInt8.toNat, List.replicate p false) := by
    unfold decR
    rw [he, d1, d3, hb, bits8_eq, grp_flat (by decide)]
    · intro v hv; obtain ⟨b, _, rfl⟩ := List.mem_map.1 hv; exact b.toNat_lt
    · simp; omega
  have hsz : (padT t).length ≤ 174764 := by unfold padT; simp; omega
  refine ⟨?_, ?_⟩
  · unfold decE badB64
    rw [hr, he, d1, d3, takeWhile_app_all hall, if_neg (by omega), if_neg (by omega), if_neg (by omega), if_neg (by simp [valB_repl])]
  · unfold decB
    rw [hr]
    show (l.map UInt8.toNat).map UInt8.ofNat = l
    rw [List.map_map]
    conv => rhs; rw [← List.map_id l]
    apply List.map_congr_left
    intro b _; exact UInt8.ofNat_toNat
theorem datN_spec (s : Str) : datN s ≤ s.length ∧ s.length ≤ datN s + 2 ∧ s = s.take (datN s) ++ List.replicate (s.length - datN s) 61 := by
  unfold datN
  by_cases h : s.length = 0 ∨ s.length % 4 ≠ 0 ∨ s.getD (s.length - 1) 0 ≠ 61
  · rw [if_pos h]
    refine ⟨Nat.le_refl _, by omega, ?_⟩
    rw [Nat.sub_self, List.take_length]; simp
  · rw [if_neg h]
    have h0 : s.length ≠ 0 := fun e => h (.inl e)
    have h4 : s.length % 4 = 0 := Decidable.byContradiction fun e => h (.inr (.inl e))
    have h1 : s.getD (s.length - 1) 0 = 61 := Decidable.byContradiction fun e => h (.inr (.inr e))
    have e1 : ∀ k, k < s.length → s.drop k = s.getD k 0 :: s.drop (k + 1) := fun k hk => by rw [List.drop_eq_getElem_cons hk, List.getD_eq_getElem?_getD, List.getElem?_eq_getElem hk]; rfl
    have d1 : s.drop (s.length - 1) = [61] := by rw [e1 _ (by omega), h1, show s.length - 1 + 1 = s.length by omega, List.drop_length]
    by_cases h2 : s.getD (s.length - 2) 0 = 61
    · rw [if_pos h2]
      refine ⟨by omega, by omega, ?_⟩
      have d2 : s.drop (s.length - 2) = [61, 61] := by rw [e1 _ (by omega), h2, show s.length - 2 + 1 = s.length - 1 by omega, d1]
      rw [show s.length - (s.length - 2) = 2 by omega]
      conv => lhs; rw [← List.take_append_drop (s.length - 2) s, d2]
      rfl
    · rw [if_neg h2]
      refine ⟨by omega, by omega, ?_⟩
      rw [show s.length - (s.length - 1) = 1 by omega]
      conv => lhs; rw [← List.take_append_drop (s.length - 1) s, d1]
      rfl
theorem datN_div {s : Str} (h : s.length % 4 ≠ 0) : datN s = s.length := by
  unfold datN; rw [if_pos (.inr (.inl h))]
theorem bits6_vals (t : Str) (h : t.all b64B = true) : bits6 t = (t.map fun c => (b64V c).toNat).flatMap (bitsK 6) ∧ (t.map fun c => (b64V c).toNat).map b64C = t ∧ ∀ v ∈ t.map (fun c => (b64V c).toNat), v < 2 ^ 6 := by
  refine ⟨by unfold bits6; rw [List.flatMap_map], ?_, ?_⟩
  · rw [List.map_map]
    conv => rhs; rw [← List.map_id t]
    apply List.map_congr_left
    intro c hc; exact (b64_back c (List.all_eq_true.1 h c hc)).1
  · intro v hv
    obtain ⟨c, hc, rfl⟩ := List.mem_map.1 hv
    exact (b64_back c (List.all_eq_true.1 h c hc)).2
/-- Characters whose last r bits are zeros are the text of the bits ahead of these. -/
theorem encB_back {t : Str} (h : t.all b64B = true) {X : List Bool} {r : Nat} (hr : r < 6) (hX : bits6 t = X ++ List.replicate r false) : encB (grp 6 X) = t := by
  rcases Nat.eq_zero_or_pos r with rfl | hpos
  · obtain ⟨h1, h2, h3⟩ := bits6_vals t h
    rw [List.replicate_zero, List.append_nil] at hX
    have := grp_flat (k := 6) (by decide) (t.map fun c => (b64V c).toNat) [] h3 (by decide)
    rw [List.append_nil] at this
    rw [← hX, h1, this]
    unfold encB; rw [h2, if_pos rfl, List.append_nil]
  · rcases List.eq_nil_or_concat t with rfl | ⟨t', c, rfl⟩
    · have := congrArg List.length hX
      simp [bits6] at this; omega
    · rw [List.concat_eq_append] at *
      rw [List.all_append, Bool.and_eq_true] at h
      obtain ⟨h1, h2, h3⟩ := bits6_vals t' h.1
      have hc : b64B c = true := by simpa using h.2
      obtain ⟨c1, c2⟩ := b64_back c hc
      have e0 : bits6 (t' ++ [c]) = bits6 t' ++ bitsK 6 (b64V c).toNat := by unfold bits6; rw [List.flatMap_append]; simp
      have hlen := bitsK_len 6 (b64V c).toNat
      have hXl : X.length + r = (bits6 t').length + 6 := by
        have := congrArg List.length hX
        rw [e0, List.length_append, List.length_append, hlen, List.length_replicate] at this
        omega
      have eX : X = bits6 t' ++ (bitsK 6 (b64V c).toNat).take (6 - r) := by
        have := congrArg (List.take X.length) hX
        rw [List.take_left, e0, List.take_append, List.take_of_length_le (by omega), show X.length - (bits6 t').length = 6 - r by omega] at this
        exact this.symm
      have eZ : (bitsK 6 (b64V c).toNat).drop (6 - r) = List.replicate r false := by
        have := congrArg (List.drop X.length) hX
        rw [List.drop_left, e0, List.drop_append, List.drop_of_length_le (by omega), List.nil_append, show X.length - (bits6 t').length = 6 - r by omega] at this
        exact this
      have hval : valB ((bitsK 6 (b64V c).toNat).take (6 - r)) * 2 ^ r = (b64V c).toNat := by
        have e1 := valB_bitsK 6 (b64V c).toNat c2
        rw [← List.take_append_drop (6 - r) (bitsK 6 (b64V c).toNat), eZ, valB_app, valB_repl, List.length_replicate, Nat.add_zero] at e1
        exact e1
      have hk : ((bitsK 6 (b64V c).toNat).take (6 - r)).length = 6 - r := by rw [List.length_take]; omega
      have hne : (bitsK 6 (b64V c).toNat).take (6 - r) ≠ [] := by intro e; rw [e] at hk; simp at hk; omega
      rw [eX, h1, grp_flat (by decide) _ _ h3 (by omega)]
      unfold encB
      simp only
      rw [h2, if_neg hne, hk, show 6 - (6 - r) = r by omega, hval, c1]
/-- What is read without an error is the text of its bytes. -/
theorem enc_dec {s : Str} (h : decE s = 0) : encL (decB s) = s := by
  have hsz : ¬ 174764 < s.length := fun c => by unfold decE at h; rw [if_pos c] at h; cases h
  have hbad : ¬ badB64 s < datN s := fun c => by unfold decE at h; rw [if_neg hsz, if_pos c] at h; cases h
  have h4 : ¬ s.length % 4 ≠ 0 := fun c => by unfold decE at h; rw [if_neg hsz, if_neg hbad, if_pos c] at h; cases h
  have hz : ¬ valB (decR s).2 ≠ 0 := fun c => by unfold decE at h; rw [if_neg hsz, if_neg hbad, if_neg h4, if_pos c] at h; cases h
  obtain ⟨n1, n2, n3⟩ := datN_spec s
  have htl : (s.take (datN s)).length = datN s := by rw [List.length_take]; omega
  have hall : (s.take (datN s)).all b64B = true := all_of_takeWhile (by unfold badB64 at hbad; omega)
  obtain ⟨g1, g2⟩ := grp_back (k := 8) (by decide) (bits6 (s.take (datN s))).length (bits6 (s.take (datN s))) (Nat.le_refl _)
  have g3 := grp_left (k := 8) (by decide) (bits6 (s.take (datN s))).length (bits6 (s.take (datN s))) (Nat.le_refl _)
  have g4 := grp_len (k := 8) (by decide) (bits6 (s.take (datN s)))
  have hz' : valB (grp 8 (bits6 (s.take (datN s)))).2 = 0 := Decidable.not_not.1 hz
  have e8 : bits8 (decB s) = (grp 8 (bits6 (s.take (datN s)))).1.flatMap (bitsK 8) := by
    rw [bits8_eq]; unfold decB decR
    rw [List.map_map]
    congr 1
    conv => rhs; rw [← List.map_id (grp 8 (bits6 (s.take (datN s)))).1]
    apply List.map_congr_left
    intro v hv
    have := g2 v hv
    show (UInt8.ofNat v).toNat = v
    rw [UInt8.toNat_ofNat']; omega
  rw [bits6_len, htl] at g4
  have hr6 : (grp 8 (bits6 (s.take (datN s)))).2.length < 6 := by
    have : datN s % 4 = 0 ∨ datN s % 4 = 2 ∨ datN s % 4 = 3 := by omega
    omega
  have hb : encB (grp 6 (bits8 (decB s))) = s.take (datN s) := by
    refine encB_back hall hr6 ?_
    rw [e8]
    conv => lhs; rw [← g1]
    rw [← valB_zero _ hz']
  unfold encL padT
  rw [hb, htl]
  conv => rhs; rw [n3]
  congr 2
  omega
end Go.Proofs.YtcdcmohccbhchaaGreatDoor

/- Plain lists of bytes: encodings and decodings are inverse to each other; a beginning of eight bytes decides what Decode gives. No program in sight. -/
import Derived.Test.YtalommgkigacpaaDoorScan
namespace Go.Proofs.YtalommgkigacpaaDoor

/-- The bytes of an encoding, as numbers. -/
def encZ (r : Int) : List Int :=
  if r ≤ 127 then [r] else if r ≤ 2047 then [192 + r / 64, 128 + r % 64] else if r ≤ 65535 then [224 + r / 4096, 128 + r / 64 % 64, 128 + r % 64] else [240 + r / 262144, 128 + r / 4096 % 64, 128 + r / 64 % 64, 128 + r % 64]
/-- A code point. -/
def scal (r : Int) : Prop := 0 ≤ r ∧ r ≤ 1114111 ∧ (r < 55296 ∨ 57343 < r)
instance (r : Int) : Decidable (scal r) := by unfold scal; infer_instance
def toB (n : Int) : UInt8 := UInt8.ofNat n.toNat
theorem toB_bz (a : UInt8) : toB (bz a) = a := by
  unfold toB bz; rw [Int.toNat_natCast]; exact UInt8.ofNat_toNat
theorem bz_toB (n : Int) (h0 : 0 ≤ n) (h1 : n ≤ 255) : bz (toB n) = n := by
  unfold toB bz; rw [UInt8.toNat_ofNat']; omega
/-- The bytes of an encoding. -/
def encL (r : Int) : List UInt8 := (encZ r).map toB

theorem encZ_1 (r : Int) (h : r ≤ 127) : encZ r = [r] := by unfold encZ; rw [if_pos h]
theorem encZ_2 (r : Int) (h : 128 ≤ r) (h' : r ≤ 2047) : encZ r = [192 + r / 64, 128 + r % 64] := by unfold encZ; rw [if_neg (by omega), if_pos h']
theorem encZ_3 (r : Int) (h : 2048 ≤ r) (h' : r ≤ 65535) : encZ r = [224 + r / 4096, 128 + r / 64 % 64, 128 + r % 64] := by unfold encZ; rw [if_neg (by omega), if_neg (by omega), if_pos h']
theorem encZ_4 (r : Int) (h : 65536 ≤ r) : encZ r = [240 + r / 262144, 128 + r / 4096 % 64, 128 + r / 64 % 64, 128 + r % 64] := by unfold encZ; rw [if_neg (by omega), if_neg (by omega), if_neg (by omega)]

theorem val2 (a b : UInt8) : val [a, b] = 64 * (bz a % 32) + bz b % 64 := by simp [val, valFold]
theorem val3 (a b c : UInt8) : val [a, b, c] = 64 * (64 * (bz a % 16) + bz b % 64) + bz c % 64 := by simp [val, valFold]
theorem val4 (a b c d : UInt8) : val [a, b, c, d] = 64 * (64 * (64 * (bz a % 8) + bz b % 64) + bz c % 64) + bz d % 64 := by simp [val, valFold]

theorem ev1 (a : UInt8) (h : lenZ (bz a) = 1) : encZ (val [a]) = [bz a] ∧ scal (val [a]) := by
  have h0 := bz_lo a; have h1 := bz_hi a
  show encZ (bz a) = _ ∧ scal (bz a)
  rcases cls (bz a) h0 h1 with g | g | g | g | g | g | g | g
  · exact ⟨encZ_1 _ g.1, by unfold scal; omega⟩
  all_goals omega
theorem ev2 (a b : UInt8) (h : lenZ (bz a) = 2) (hb : contB (bz a) 1 (bz b) = true) : encZ (val [a, b]) = [bz a, bz b] ∧ scal (val [a, b]) := by
  have h0 := bz_lo a; have h1 := bz_hi a
  rw [contB_iff] at hb
  rw [val2]
  have hr : 194 ≤ bz a ∧ bz a ≤ 223 := by rcases cls (bz a) h0 h1 with g | g | g | g | g | g | g | g <;> omega
  generalize bz a = x at *
  generalize bz b = y at *
  constructor
  · rw [encZ_2 _ (by omega) (by omega)]
    congr 1
    · omega
    · congr 1; omega
  · unfold scal; omega
theorem ev3 (a b c : UInt8) (h : lenZ (bz a) = 3) (hb : contB (bz a) 1 (bz b) = true) (hc : contB (bz a) 2 (bz c) = true) : encZ (val [a, b, c]) = [bz a, bz b, bz c] ∧ scal (val [a, b, c]) := by
  have h0 := bz_lo a; have h1 := bz_hi a
  rw [contB_iff] at hb hc
  rw [val3]
  have hr : 224 ≤ bz a ∧ bz a ≤ 239 := by rcases cls (bz a) h0 h1 with g | g | g | g | g | g | g | g <;> omega
  generalize bz a = x at *
  generalize bz b = y at *
  generalize bz c = z at *
  constructor
  · rw [encZ_3 _ (by omega) (by omega)]
    congr 1
    · omega
    · congr 1
      · omega
      · congr 1; omega
  · unfold scal; omega
theorem ev4 (a b c d : UInt8) (h : lenZ (bz a) = 4) (hb : contB (bz a) 1 (bz b) = true) (hc : contB (bz a) 2 (bz c) = true) (hd : contB (bz a) 3 (bz d) = true) : encZ (val [a, b, c, d]) = [bz a, bz b, bz c, bz d] ∧ scal (val [a, b, c, d]) := by
  have h0 := bz_lo a; have h1 := bz_hi a
  rw [contB_iff] at hb hc hd
  rw [val4]
  have hr : 240 ≤ bz a ∧ bz a ≤ 244 := by rcases cls (bz a) h0 h1 with g | g | g | g | g | g | g | g <;> omega
  have q1 := hb.2.2.1; have q2 := hb.2.2.2.2.2
  have s1 := hc.2.2.1; have s2 := hc.2.2.2.2.2
  have v1 := hd.2.2.1; have v2 := hd.2.2.2.2.2
  have lo : bz a = 240 → 144 ≤ bz b := fun e => hb.2.1 ⟨rfl, e⟩
  have hi : bz a = 244 → bz b ≤ 143 := fun e => hb.2.2.2.2.1 ⟨rfl, e⟩
  clear hb hc hd h h0 h1
  obtain ⟨r1, r2⟩ := hr
  generalize bz a = x at *
  generalize bz b = y at *
  generalize bz c = z at *
  generalize bz d = u at *
  obtain ⟨p, rfl⟩ : ∃ p, x = 240 + p := ⟨x - 240, by omega⟩
  obtain ⟨q, rfl⟩ : ∃ q, y = 128 + q := ⟨y - 128, by omega⟩
  obtain ⟨s, rfl⟩ : ∃ s, z = 128 + s := ⟨z - 128, by omega⟩
  obtain ⟨v, rfl⟩ : ∃ v, u = 128 + v := ⟨u - 128, by omega⟩
  rw [show (240 + p) % 8 = p by omega, show (128 + q) % 64 = q by omega, show (128 + s) % 64 = s by omega, show (128 + v) % 64 = v by omega]
  constructor
  · rw [encZ_4 _ (by omega)]
    congr 1
    · omega
    · congr 1
      · omega
      · congr 1
        · omega
        · congr 1; omega
  · unfold scal; omega

/-- The whole encodings that a string can begin with. -/
theorem whole_cases (l : List UInt8) (h : measB l = true) :
    (∃ a t, l = a :: t ∧ measN l = 1 ∧ lenZ (bz a) = 1) ∨
    (∃ a b t, l = a :: b :: t ∧ measN l = 2 ∧ lenZ (bz a) = 2 ∧ contB (bz a) 1 (bz b) = true) ∨
    (∃ a b c t, l = a :: b :: c :: t ∧ measN l = 3 ∧ lenZ (bz a) = 3 ∧ contB (bz a) 1 (bz b) = true ∧ contB (bz a) 2 (bz c) = true) ∨
    (∃ a b c d t, l = a :: b :: c :: d :: t ∧ measN l = 4 ∧ lenZ (bz a) = 4 ∧ contB (bz a) 1 (bz b) = true ∧ contB (bz a) 2 (bz c) = true ∧ contB (bz a) 3 (bz d) = true) := by
  rcases l with _ | ⟨a, t⟩
  · simp [measB] at h
  have hb : begB ((a :: t).take (measN (a :: t))) = true := (beg_take a t _ (measN_pos _ h) (measN_le _) (measN_le4 _)).2 (Nat.le_refl _)
  have hp := measN_pos _ h
  rw [measB_cons] at h
  obtain ⟨hz, hn⟩ := h
  have hle := measN_le (a :: t)
  have h4 := measN_le4 (a :: t)
  generalize hk : measN (a :: t) = k at *
  rcases (show k = 1 ∨ k = 2 ∨ k = 3 ∨ k = 4 by omega) with rfl | rfl | rfl | rfl
  · exact .inl ⟨a, t, rfl, rfl, by simpa using hn.symm⟩
  · rcases t with _ | ⟨b, t⟩
    · simp at hle
    rw [show (a :: b :: t).take 2 = [a, b] from rfl, beg2] at hb
    exact .inr (.inl ⟨a, b, t, rfl, rfl, by simpa using hn.symm, hb.2⟩)
  · rcases t with _ | ⟨b, _ | ⟨c, t⟩⟩
    · simp at hle
    · simp at hle
    rw [show (a :: b :: c :: t).take 3 = [a, b, c] from rfl, beg3] at hb
    exact .inr (.inr (.inl ⟨a, b, c, t, rfl, rfl, by simpa using hn.symm, hb.2⟩))
  · rcases t with _ | ⟨b, _ | ⟨c, _ | ⟨d, t⟩⟩⟩
    · simp at hle
    · simp at hle
    · simp at hle
    rw [show (a :: b :: c :: d :: t).take 4 = [a, b, c, d] from rfl, beg4] at hb
    exact .inr (.inr (.inr ⟨a, b, c, d, t, rfl, rfl, by simpa using hn.symm, hb.2⟩))

/-- Decode, then encode: the beginning of the string. -/
theorem enc_dec (l : List UInt8) (h : decE l = 0) : encL (decR l) = l.take (decN l) ∧ scal (decR l) := by
  have hm := (decE_zero l h).1
  have e1 : decR l = val (l.take (measN l)) := by simp [decR, hm]
  have e2 : decN l = measN l := by simp [decN, hm]
  rw [e1, e2]
  rcases whole_cases l hm with ⟨a, t, rfl, hn, h1⟩ | ⟨a, b, t, rfl, hn, h1, h2⟩ | ⟨a, b, c, t, rfl, hn, h1, h2, h3⟩ | ⟨a, b, c, d, t, rfl, hn, h1, h2, h3, h4⟩
  · rw [hn, show (a :: t).take 1 = [a] from rfl]
    have := ev1 a h1
    exact ⟨by unfold encL; rw [this.1]; simp [toB_bz], this.2⟩
  · rw [hn, show (a :: b :: t).take 2 = [a, b] from rfl]
    have := ev2 a b h1 h2
    exact ⟨by unfold encL; rw [this.1]; simp [toB_bz], this.2⟩
  · rw [hn, show (a :: b :: c :: t).take 3 = [a, b, c] from rfl]
    have := ev3 a b c h1 h2 h3
    exact ⟨by unfold encL; rw [this.1]; simp [toB_bz], this.2⟩
  · rw [hn, show (a :: b :: c :: d :: t).take 4 = [a, b, c, d] from rfl]
    have := ev4 a b c d h1 h2 h3 h4
    exact ⟨by unfold encL; rw [this.1]; simp [toB_bz], this.2⟩

theorem decR_scal (l : List UInt8) : scal (decR l) := by
  by_cases h : decE l = 0
  · exact (enc_dec l h).2
  · have : decR l = 0 := by
      unfold decR
      by_cases hm : measB l = true
      · exfalso
        apply h
        have : l ≠ [] := by rintro rfl; simp [measB] at hm
        simp [decE, this, hm]
      · rw [if_neg hm]
    rw [this]; decide

/-- Encode, then decode, whatever follows. -/
theorem dec_enc (r : Int) (h : scal r) (rest : List UInt8) : decE (encL r ++ rest) = 0 ∧ decR (encL r ++ rest) = r ∧ decN (encL r ++ rest) = (encL r).length := by
  unfold scal at h
  have fin : ∀ l, l ≠ [] → measB l = true → decE l = 0 ∧ decR l = val (l.take (measN l)) ∧ decN l = measN l := by
    intro l hl hm; simp [decE, decR, decN, hl, hm]
  by_cases c1 : r ≤ 127
  · have e : encL r = [toB r] := by unfold encL; rw [encZ_1 r c1]; rfl
    have hb := bz_toB r (by omega) (by omega)
    have hl : lenZ (bz (toB r)) = 1 := by rw [hb]; unfold lenZ; rw [if_pos c1]
    rw [e]
    have hn : measN (toB r :: rest) = 1 := by simp [measN, hl, goOn_full]
    have hm : measB (toB r :: rest) = true := by rw [measB_cons, hn, hl]; decide
    have := fin (toB r :: rest) (by simp) hm
    rw [hn] at this
    exact ⟨this.1, by rw [List.singleton_append, this.2.1]; exact hb, this.2.2⟩
  by_cases c2 : r ≤ 2047
  · have e : encL r = [toB (192 + r / 64), toB (128 + r % 64)] := by unfold encL; rw [encZ_2 r (by omega) c2]; rfl
    have hb := bz_toB (192 + r / 64) (by omega) (by omega)
    have hc := bz_toB (128 + r % 64) (by omega) (by omega)
    have hl : lenZ (bz (toB (192 + r / 64))) = 2 := by rw [hb]; unfold lenZ; rw [if_neg (by omega), if_neg (by omega), if_pos (by omega)]
    rw [e]
    generalize toB (192 + r / 64) = a at *
    generalize toB (128 + r % 64) = b at *
    have k1 : contB (bz a) 1 (bz b) = true := by rw [contB_iff]; omega
    have hn : measN (a :: b :: rest) = 2 := by
      simp only [measN, hl]
      rw [if_neg (by decide), goOn_yes _ _ _ _ _ (by decide) (by simpa using k1), goOn_full _ _ _ _ (by decide)]
    have hm : measB (a :: b :: rest) = true := by rw [measB_cons, hn, hl]; decide
    have := fin (a :: b :: rest) (by simp) hm
    rw [hn] at this
    refine ⟨this.1, ?_, this.2.2⟩
    show decR (a :: b :: rest) = r
    rw [this.2.1, show (a :: b :: rest).take 2 = [a, b] from rfl, val2]; omega
  by_cases c3 : r ≤ 65535
  · have e : encL r = [toB (224 + r / 4096), toB (128 + r / 64 % 64), toB (128 + r % 64)] := by unfold encL; rw [encZ_3 r (by omega) c3]; rfl
    have hb := bz_toB (224 + r / 4096) (by omega) (by omega)
    have hc := bz_toB (128 + r / 64 % 64) (by omega) (by omega)
    have hd := bz_toB (128 + r % 64) (by omega) (by omega)
    have hl : lenZ (bz (toB (224 + r / 4096))) = 3 := by rw [hb]; unfold lenZ; rw [if_neg (by omega), if_neg (by omega), if_neg (by omega), if_pos (by omega)]
    rw [e]
    generalize toB (224 + r / 4096) = a at *
    generalize toB (128 + r / 64 % 64) = b at *
    generalize toB (128 + r % 64) = c at *
    have k1 : contB (bz a) 1 (bz b) = true := by rw [contB_iff]; omega
    have k2 : contB (bz a) 2 (bz c) = true := by rw [contB_iff]; omega
    have hn : measN (a :: b :: c :: rest) = 3 := by
      simp only [measN, hl]
      rw [if_neg (by decide), goOn_yes _ _ _ _ _ (by decide) (by simpa using k1), goOn_yes _ _ _ _ _ (by decide) (by simpa using k2), goOn_full _ _ _ _ (by decide)]
    have hm : measB (a :: b :: c :: rest) = true := by rw [measB_cons, hn, hl]; decide
    have := fin (a :: b :: c :: rest) (by simp) hm
    rw [hn] at this
    refine ⟨this.1, ?_, this.2.2⟩
    show decR (a :: b :: c :: rest) = r
    rw [this.2.1, show (a :: b :: c :: rest).take 3 = [a, b, c] from rfl, val3]; omega
  · have e : encL r = [toB (240 + r / 262144), toB (128 + r / 4096 % 64), toB (128 + r / 64 % 64), toB (128 + r % 64)] := by unfold encL; rw [encZ_4 r (by omega)]; rfl
    have hb := bz_toB (240 + r / 262144) (by omega) (by omega)
    have hc := bz_toB (128 + r / 4096 % 64) (by omega) (by omega)
    have hd := bz_toB (128 + r / 64 % 64) (by omega) (by omega)
    have hf := bz_toB (128 + r % 64) (by omega) (by omega)
    have hl : lenZ (bz (toB (240 + r / 262144))) = 4 := by rw [hb]; unfold lenZ; rw [if_neg (by omega), if_neg (by omega), if_neg (by omega), if_neg (by omega), if_pos (by omega)]
    rw [e]
    generalize toB (240 + r / 262144) = a at *
    generalize toB (128 + r / 4096 % 64) = b at *
    generalize toB (128 + r / 64 % 64) = c at *
    generalize toB (128 + r % 64) = d at *
    have k1 : contB (bz a) 1 (bz b) = true := by rw [contB_iff]; omega
    have k2 : contB (bz a) 2 (bz c) = true := by rw [contB_iff]; omega
    have k3 : contB (bz a) 3 (bz d) = true := by rw [contB_iff]; omega
    have hn : measN (a :: b :: c :: d :: rest) = 4 := by
      simp only [measN, hl]
      rw [if_neg (by decide), goOn_yes _ _ _ _ _ (by decide) (by simpa using k1), goOn_yes _ _ _ _ _ (by decide) (by simpa using k2), goOn_yes _ _ _ _ _ (by decide) (by simpa using k3), goOn_full _ _ _ _ (by decide)]
    have hm : measB (a :: b :: c :: d :: rest) = true := by rw [measB_cons, hn, hl]; decide
    have := fin (a :: b :: c :: d :: rest) (by simp) hm
    rw [hn] at this
    refine ⟨this.1, ?_, this.2.2⟩
    show decR (a :: b :: c :: d :: rest) = r
    rw [this.2.1, show (a :: b :: c :: d :: rest).take 4 = [a, b, c, d] from rfl, val4]; omega

theorem goOn_take (f size : Int) : ∀ (l : List UInt8) (i k : Nat), size ≤ (i + k : Nat) → goOn f size i (l.take k) = goOn f size i l
  | [], i, k, _ => by simp
  | c :: t, i, 0, h => by
    rw [goOn_full _ _ _ _ (by omega), goOn_full _ _ _ _ (by omega)]
  | c :: t, i, k + 1, h => by
    simp only [List.take_succ_cons, goOn]
    rw [goOn_take f size t (i + 1) k (by omega)]

/-- Eight bytes decide. -/
theorem dec_take8 (l : List UInt8) (k : Nat) (hk : 8 ≤ k) : decE (l.take k) = decE l ∧ decR (l.take k) = decR l ∧ decN (l.take k) = decN l := by
  rcases l with _ | ⟨a, t⟩
  · simp
  obtain ⟨j, rfl⟩ : ∃ j, k = j + 1 := ⟨k - 1, by omega⟩
  have hg : goOn (bz a) (lenZ (bz a)) 1 (t.take j) = goOn (bz a) (lenZ (bz a)) 1 t := goOn_take _ _ t 1 j (by have := len_vals (bz a); omega)
  have hn : measN ((a :: t).take (j + 1)) = measN (a :: t) := by simp only [List.take_succ_cons, measN, hg]
  have hb : measB ((a :: t).take (j + 1)) = measB (a :: t) := by simp only [List.take_succ_cons, measB, hg]
  have h4 := measN_le4 (a :: t)
  refine ⟨?_, ?_, ?_⟩
  · unfold decE
    rw [hn, hb]
    have e1 : ((a :: t).take (j + 1) = []) = ((a :: t) = []) := by simp
    have e2 : (measN (a :: t) = ((a :: t).take (j + 1)).length) = (measN (a :: t) = (a :: t).length) := by
      apply propext
      rw [List.length_take]
      omega
    simp only [e1, e2]
  · unfold decR
    rw [hn, hb, List.take_take, Nat.min_eq_left (by omega)]
  · unfold decN
    rw [hn, hb]
end Go.Proofs.YtalommgkigacpaaDoor

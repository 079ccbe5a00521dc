/- Plain lists of bytes: all code points up to the first error, their offsets, the error and its offset. No program in sight. -/
import Derived.Test.YtalommgkigacpaaDoorPlain2
namespace Go.Proofs.YtalommgkigacpaaDoor

theorem decE_nil : decE [] = 1 := by simp [decE]
theorem decE_zero (l : List UInt8) (h : decE l = 0) : measB l = true ∧ l ≠ [] := by
  unfold decE at h
  by_cases c : l = []
  · simp [c] at h
  · by_cases b : measB l = true
    · exact ⟨b, c⟩
    · simp only [if_neg c, if_neg b] at h
      split at h
      · omega
      · split at h <;> omega
theorem decN_pos (l : List UInt8) (h : decE l = 0) : 1 ≤ decN l := by
  have := (decE_zero l h).1
  simp only [decN, this, if_true]; exact measN_pos l this
theorem decN_le (l : List UInt8) : decN l ≤ l.length := by
  unfold decN; split
  · exact measN_le l
  · omega
theorem decN_le4 (l : List UInt8) : decN l ≤ 4 := by
  unfold decN; split
  · exact measN_le4 l
  · omega
theorem decE_vals (l : List UInt8) : decE l = 0 ∨ decE l = 1 ∨ decE l = 3 ∨ decE l = 6 ∨ decE l = 23 := by
  unfold decE; repeat' split
  all_goals omega

def errF : Nat → List UInt8 → Int
  | 0, _ => 0
  | f + 1, l => if l = [] then 0 else if decE l = 0 then errF f (l.drop (decN l)) else decE l
def atF : Nat → Nat → List UInt8 → Nat
  | 0, _, _ => 0
  | f + 1, k, l => if l = [] then 0 else if decE l = 0 then atF f (k + decN l) (l.drop (decN l)) else k
def runF : Nat → List UInt8 → List Int
  | 0, _ => []
  | f + 1, l => if l = [] then [] else if decE l = 0 then decR l :: runF f (l.drop (decN l)) else []
def offF : Nat → Nat → List UInt8 → List Nat
  | 0, _, _ => []
  | f + 1, k, l => if l = [] then [] else if decE l = 0 then k :: offF f (k + decN l) (l.drop (decN l)) else []

theorem drop_short (l : List UInt8) (f : Nat) (h : decE l = 0) (hf : l.length ≤ f + 1) : (l.drop (decN l)).length ≤ f := by
  have := decN_pos l h; rw [List.length_drop]; omega

theorem errF_eq : ∀ (f g : Nat) (l : List UInt8), l.length ≤ f → l.length ≤ g → errF f l = errF g l
  | 0, 0, _, _, _ => rfl
  | 0, g + 1, l, h, _ => by have : l = [] := List.length_eq_zero_iff.1 (by omega); simp [errF, this]
  | f + 1, 0, l, _, h => by have : l = [] := List.length_eq_zero_iff.1 (by omega); simp [errF, this]
  | f + 1, g + 1, l, h1, h2 => by
    simp only [errF]
    by_cases c : l = []
    · simp [c]
    · by_cases d : decE l = 0
      · simp only [if_neg c, if_pos d]; exact errF_eq f g _ (drop_short l f d h1) (drop_short l g d h2)
      · simp only [if_neg c, if_neg d]
theorem atF_eq : ∀ (f g : Nat) (k : Nat) (l : List UInt8), l.length ≤ f → l.length ≤ g → atF f k l = atF g k l
  | 0, 0, _, _, _, _ => rfl
  | 0, g + 1, k, l, h, _ => by have : l = [] := List.length_eq_zero_iff.1 (by omega); simp [atF, this]
  | f + 1, 0, k, l, _, h => by have : l = [] := List.length_eq_zero_iff.1 (by omega); simp [atF, this]
  | f + 1, g + 1, k, l, h1, h2 => by
    simp only [atF]
    by_cases c : l = []
    · simp [c]
    · by_cases d : decE l = 0
      · simp only [if_neg c, if_pos d]; exact atF_eq f g _ _ (drop_short l f d h1) (drop_short l g d h2)
      · simp only [if_neg c, if_neg d]
theorem runF_eq : ∀ (f g : Nat) (l : List UInt8), l.length ≤ f → l.length ≤ g → runF f l = runF g l
  | 0, 0, _, _, _ => rfl
  | 0, g + 1, l, h, _ => by have : l = [] := List.length_eq_zero_iff.1 (by omega); simp [runF, this]
  | f + 1, 0, l, _, h => by have : l = [] := List.length_eq_zero_iff.1 (by omega); simp [runF, this]
  | f + 1, g + 1, l, h1, h2 => by
    simp only [runF]
    by_cases c : l = []
    · simp [c]
    · by_cases d : decE l = 0
      · simp only [if_neg c, if_pos d]; rw [runF_eq f g _ (drop_short l f d h1) (drop_short l g d h2)]
      · simp only [if_neg c, if_neg d]
theorem offF_eq : ∀ (f g : Nat) (k : Nat) (l : List UInt8), l.length ≤ f → l.length ≤ g → offF f k l = offF g k l
  | 0, 0, _, _, _, _ => rfl
  | 0, g + 1, k, l, h, _ => by have : l = [] := List.length_eq_zero_iff.1 (by omega); simp [offF, this]
  | f + 1, 0, k, l, _, h => by have : l = [] := List.length_eq_zero_iff.1 (by omega); simp [offF, this]
  | f + 1, g + 1, k, l, h1, h2 => by
    simp only [offF]
    by_cases c : l = []
    · simp [c]
    · by_cases d : decE l = 0
      · simp only [if_neg c, if_pos d]; rw [offF_eq f g _ _ (drop_short l f d h1) (drop_short l g d h2)]
      · simp only [if_neg c, if_neg d]

/-- The kind of the first error; its offset, counted from k; the code points ahead of it; their offsets, counted from k. -/
def errOf (l : List UInt8) : Int := errF l.length l
def atOf (k : Nat) (l : List UInt8) : Nat := atF l.length k l
def runOf (l : List UInt8) : List Int := runF l.length l
def offOf (k : Nat) (l : List UInt8) : List Nat := offF l.length k l

theorem errOf_nil : errOf [] = 0 := rfl
theorem atOf_nil (k : Nat) : atOf k [] = 0 := rfl
theorem runOf_nil : runOf [] = [] := rfl
theorem offOf_nil (k : Nat) : offOf k [] = [] := rfl
theorem errOf_bad (l : List UInt8) (hl : l ≠ []) (h : decE l ≠ 0) : errOf l = decE l := by
  rcases l with _ | ⟨a, t⟩
  · exact absurd rfl hl
  · simp [errOf, errF, h]
theorem atOf_bad (k : Nat) (l : List UInt8) (hl : l ≠ []) (h : decE l ≠ 0) : atOf k l = k := by
  rcases l with _ | ⟨a, t⟩
  · exact absurd rfl hl
  · simp [atOf, atF, h]
theorem runOf_bad (l : List UInt8) (h : decE l ≠ 0) : runOf l = [] := by
  rcases l with _ | ⟨a, t⟩
  · rfl
  · simp [runOf, runF, h]
theorem offOf_bad (k : Nat) (l : List UInt8) (h : decE l ≠ 0) : offOf k l = [] := by
  rcases l with _ | ⟨a, t⟩
  · rfl
  · simp [offOf, offF, h]
theorem errOf_good (l : List UInt8) (h : decE l = 0) : errOf l = errOf (l.drop (decN l)) := by
  have hl := (decE_zero l h).2
  rcases l with _ | ⟨a, t⟩
  · exact absurd rfl hl
  · have hd := drop_short _ t.length h (by simp)
    rw [show errOf (a :: t) = errF t.length ((a :: t).drop (decN (a :: t))) by simp [errOf, errF, h]]
    exact errF_eq _ _ _ hd (Nat.le_refl _)
theorem atOf_good (k : Nat) (l : List UInt8) (h : decE l = 0) : atOf k l = atOf (k + decN l) (l.drop (decN l)) := by
  have hl := (decE_zero l h).2
  rcases l with _ | ⟨a, t⟩
  · exact absurd rfl hl
  · have hd := drop_short _ t.length h (by simp)
    rw [show atOf k (a :: t) = atF t.length (k + decN (a :: t)) ((a :: t).drop (decN (a :: t))) by simp [atOf, atF, h]]
    exact atF_eq _ _ _ _ hd (Nat.le_refl _)
theorem runOf_good (l : List UInt8) (h : decE l = 0) : runOf l = decR l :: runOf (l.drop (decN l)) := by
  have hl := (decE_zero l h).2
  rcases l with _ | ⟨a, t⟩
  · exact absurd rfl hl
  · have hd := drop_short _ t.length h (by simp)
    rw [show runOf (a :: t) = decR (a :: t) :: runF t.length ((a :: t).drop (decN (a :: t))) by simp [runOf, runF, h]]
    rw [runF_eq _ _ _ hd (Nat.le_refl _)]; rfl
theorem offOf_good (k : Nat) (l : List UInt8) (h : decE l = 0) : offOf k l = k :: offOf (k + decN l) (l.drop (decN l)) := by
  have hl := (decE_zero l h).2
  rcases l with _ | ⟨a, t⟩
  · exact absurd rfl hl
  · have hd := drop_short _ t.length h (by simp)
    rw [show offOf k (a :: t) = k :: offF t.length (k + decN (a :: t)) ((a :: t).drop (decN (a :: t))) by simp [offOf, offF, h]]
    rw [offF_eq _ _ _ _ hd (Nat.le_refl _)]; rfl

/-- An induction along the code points. -/
theorem scan_ind {P : List UInt8 → Prop} (h0 : P []) (h1 : ∀ l, l ≠ [] → decE l ≠ 0 → P l) (h2 : ∀ l, decE l = 0 → P (l.drop (decN l)) → P l) (l : List UInt8) : P l := by
  obtain ⟨n, hn⟩ : ∃ n, l.length ≤ n := ⟨_, Nat.le_refl _⟩
  induction n generalizing l with
  | zero => have : l = [] := List.length_eq_zero_iff.1 (by omega); rw [this]; exact h0
  | succ n ih =>
    by_cases c : l = []
    · rw [c]; exact h0
    · by_cases d : decE l = 0
      · exact h2 l d (ih _ (drop_short l n d hn))
      · exact h1 l c d

theorem len_run_off (l : List UInt8) : ∀ k, (runOf l).length = (offOf k l).length := by
  refine scan_ind (P := fun l => ∀ k, (runOf l).length = (offOf k l).length) ?_ ?_ ?_ l
  · intro k; rfl
  · intro l _ h k; rw [runOf_bad l h, offOf_bad k l h]; rfl
  · intro l h ih k; rw [runOf_good l h, offOf_good k l h, List.length_cons, List.length_cons, ih]
theorem len_run (l : List UInt8) : (runOf l).length ≤ l.length := by
  refine scan_ind (P := fun l => (runOf l).length ≤ l.length) ?_ ?_ ?_ l
  · simp [runOf_nil]
  · intro l _ h; rw [runOf_bad l h]; simp
  · intro l h ih; rw [runOf_good l h, List.length_cons]; have := decN_pos l h; have := decN_le l; rw [List.length_drop] at ih; omega
theorem errOf_vals (l : List UInt8) : errOf l = 0 ∨ errOf l = 3 ∨ errOf l = 6 ∨ errOf l = 23 := by
  refine scan_ind (P := fun l => errOf l = 0 ∨ errOf l = 3 ∨ errOf l = 6 ∨ errOf l = 23) ?_ ?_ ?_ l
  · exact .inl rfl
  · intro l hl h
    rw [errOf_bad l hl h]
    have := decE_vals l
    have : decE l ≠ 1 := by
      unfold decE; rw [if_neg hl]; repeat' split
      all_goals omega
    omega
  · intro l h ih; rw [errOf_good l h]; exact ih
theorem atOf_le (l : List UInt8) : ∀ k, atOf k l ≤ k + l.length := by
  refine scan_ind (P := fun l => ∀ k, atOf k l ≤ k + l.length) ?_ ?_ ?_ l
  · intro k; simp [atOf_nil]
  · intro l hl h k; rw [atOf_bad k l hl h]; omega
  · intro l h ih k; rw [atOf_good k l h]; have := ih (k + decN l); have := decN_le l; rw [List.length_drop] at *; omega
end Go.Proofs.YtalommgkigacpaaDoor

/- Texts divided at a byte (plain): what strings.Cut and strings.Split return at a separator of one byte. -/
import Derived.Lib.Split
import Derived.Lib.SplitLaws
import Derived.Lib.Join
import Derived.Lib.Strings
namespace Go.Proofs.YtcdcmohccbhchaaGreatDoor

abbrev Str := List UInt8
/-- The parts into which a byte divides a text. -/
def splitL (c : UInt8) : Str → List Str
  | [] => [[]]
  | x :: xs => if x = c then [] :: splitL c xs else match splitL c xs with
    | [] => [[x]]
    | h :: t => (x :: h) :: t

theorem splitL_none {c : UInt8} : ∀ {s : Str}, c ∉ s → splitL c s = [s]
  | [], _ => rfl
  | x :: xs, h => by
    have h1 : x ≠ c := fun e => h (by rw [e]; exact List.mem_cons_self ..)
    have h2 : c ∉ xs := fun e => h (List.mem_cons_of_mem _ e)
    rw [splitL, if_neg h1, splitL_none h2]
theorem splitL_app {c : UInt8} : ∀ {a : Str} (t : Str), c ∉ a → splitL c (a ++ c :: t) = a :: splitL c t
  | [], t, _ => by rw [List.nil_append, splitL, if_pos rfl]
  | x :: xs, t, h => by
    have h1 : x ≠ c := fun e => h (by rw [e]; exact List.mem_cons_self ..)
    have h2 : c ∉ xs := fun e => h (List.mem_cons_of_mem _ e)
    rw [List.cons_append, splitL, if_neg h1, splitL_app t h2]
/-- A text has the byte nowhere, or a first place of it. -/
theorem first_at (c : UInt8) : ∀ s : Str, c ∉ s ∨ ∃ a t, s = a ++ c :: t ∧ c ∉ a
  | [] => .inl (by simp)
  | x :: xs => by
    by_cases h : x = c
    · exact .inr ⟨[], xs, by rw [h]; rfl, by simp⟩
    · rcases first_at c xs with h1 | ⟨a, t, rfl, h2⟩
      · exact .inl (by simp [h1, Ne.symm h])
      · exact .inr ⟨x :: a, t, rfl, by simp [h2, Ne.symm h]⟩
theorem splitL_ne (c : UInt8) (s : Str) : splitL c s ≠ [] := by
  rcases first_at c s with h | ⟨a, t, rfl, h⟩
  · rw [splitL_none h]; simp
  · rw [splitL_app t h]; simp
theorem splitL_mem {c : UInt8} : ∀ (n : Nat) (s : Str), s.length ≤ n → ∀ a ∈ splitL c s, c ∉ a
  | n, s, hn, a, ha => by
    rcases first_at c s with h | ⟨b, t, rfl, h⟩
    · rw [splitL_none h] at ha; simp at ha; subst ha; exact h
    · rw [splitL_app t h] at ha
      rcases List.mem_cons.1 ha with rfl | ha
      · exact h
      · cases n with
        | zero => simp at hn
        | succ n => exact splitL_mem n t (by simp at hn; omega) a ha
theorem split_clean {c : UInt8} {s a : Str} (h : a ∈ splitL c s) : c ∉ a := splitL_mem s.length s (Nat.le_refl _) a h
theorem join_cons2 (a b : Str) (l : List Str) (sep : Str) : Lib.join (a :: b :: l) sep = a ++ sep ++ Lib.join (b :: l) sep := by
  simp [Lib.join, List.intercalate, List.intersperse]
theorem join_splitL (c : UInt8) : ∀ (n : Nat) (s : Str), s.length ≤ n → Lib.join (splitL c s) [c] = s
  | n, s, hn => by
    rcases first_at c s with h | ⟨b, t, rfl, h⟩
    · rw [splitL_none h, Lib.join_one]
    · rw [splitL_app t h]
      cases n with
      | zero => simp at hn
      | succ n =>
        have ih := join_splitL c n t (by simp at hn; omega)
        cases hs : splitL c t with
        | nil => exact absurd hs (splitL_ne c t)
        | cons x l => rw [join_cons2, ← hs, ih]; simp
theorem join_split (c : UInt8) (s : Str) : Lib.join (splitL c s) [c] = s := join_splitL c s.length s (Nat.le_refl _)
theorem split_join (c : UInt8) : ∀ (l : List Str), l ≠ [] → (∀ a ∈ l, c ∉ a) → splitL c (Lib.join l [c]) = l
  | [], h, _ => absurd rfl h
  | [a], _, h => by rw [Lib.join_one, splitL_none (h a (by simp))]
  | a :: b :: l, _, h => by
    rw [join_cons2, List.append_assoc, List.singleton_append, splitL_app _ (h a (by simp)), split_join c (b :: l) (by simp) (fun x hx => h x (by simp [hx]))]

theorem index_miss {c : UInt8} : ∀ {s : Str}, c ∉ s → Lib.index s [c] = -1
  | [], _ => rfl
  | x :: xs, h => by
    have h1 : ¬ c = x := fun e => h (by rw [e]; exact List.mem_cons_self ..)
    have h2 : c ∉ xs := fun e => h (List.mem_cons_of_mem _ e)
    have hp : ([c] : Str).isPrefixOf (x :: xs) = false := by simp [List.isPrefixOf, h1]
    rw [Lib.index, hp, index_miss h2]; first | done | rfl
theorem index_hit {c : UInt8} : ∀ {a : Str} (t : Str), c ∉ a → Lib.index (a ++ c :: t) [c] = a.length
  | [], t, _ => by rw [List.nil_append, Lib.index]; simp [List.isPrefixOf]
  | x :: xs, t, h => by
    have h1 : ¬ c = x := fun e => h (by rw [e]; exact List.mem_cons_self ..)
    have h2 : c ∉ xs := fun e => h (List.mem_cons_of_mem _ e)
    have hp : ([c] : Str).isPrefixOf (x :: (xs ++ c :: t)) = false := by simp [List.isPrefixOf, h1]
    rw [List.cons_append, Lib.index, hp, index_hit t h2, if_neg (by decide), if_neg (by simp <;> omega)]
    simp
theorem cut_miss {c : UInt8} {s : Str} (h : c ∉ s) : Lib.cut s [c] = (s, [], false) := by
  unfold Lib.cut; rw [index_miss h, if_neg (by decide)]
theorem cut_hit {c : UInt8} {a : Str} (t : Str) (h : c ∉ a) : Lib.cut (a ++ c :: t) [c] = (a, t, true) := by
  unfold Lib.cut; rw [index_hit t h, if_pos (by omega)]; simp
theorem splitK_eq (c : UInt8) : ∀ (n : Nat) (s : Str), s.length ≤ n → Lib.splitK [c] 0 (Lib.count s [c]) s = splitL c s
  | n, s, hn => by
    rcases first_at c s with h | ⟨b, t, rfl, h⟩
    · rw [Lib.count_miss (index_miss h), splitL_none h]; rfl
    · rw [splitL_app t h, Lib.count_hit (by simp) (index_hit t h), Nat.add_comm 1]
      cases n with
      | zero => simp at hn
      | succ n =>
        have ih := splitK_eq c n t (by simp at hn; omega)
        rw [Lib.splitK, index_hit t h, if_neg (by simp <;> omega)]
        have e1 : (b ++ c :: t).take (((b.length : Int)).toNat + 0) = b := by simp
        have e2 : (b ++ c :: t).drop (((b.length : Int)).toNat + ([c] : Str).length) = t := by simp
        have e3 : (b ++ c :: t).drop (b.length + ([c] : Str).length) = t := by simp
        rw [e1, e2, e3, ih]
theorem split_eq (c : UInt8) (s : Str) : Lib.split s [c] = splitL c s := splitK_eq c s.length s (Nat.le_refl _)
theorem head_cut (c : UInt8) (s : Str) : (Lib.cut s [c]).1 = (splitL c s).headD [] := by
  rcases first_at c s with h | ⟨b, t, rfl, h⟩
  · rw [cut_miss h, splitL_none h]; rfl
  · rw [cut_hit t h, splitL_app t h]; rfl
end Go.Proofs.YtcdcmohccbhchaaGreatDoor

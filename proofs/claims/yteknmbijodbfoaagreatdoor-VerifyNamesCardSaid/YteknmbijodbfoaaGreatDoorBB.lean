/- Texts divided at a byte (plain): what strings.Cut and strings.Split return at a separator of one byte. Numbers in decimal (plain): the value of digits, which digits denote a number, and back. A control command as a row of cells, and its parts. Hexadecimal digits (plain): bytes to digits and back. Base64 (plain): bits regrouped; the text of bytes and back. Base64 (plain): the text of bytes, the bytes of a text, and back; public keys. The grammar of control commands (plain): errors, texts, words, what Print and Parse return. What Parse returns (plain): the words of a command read one after the other. Closed facts on the types of control commands; commands compared, loaded and stored. Words to values and back (plain): message identifiers, authors, numbers, names. Aggregates that control commands are built by, as rules for the walk; fields stored into a command that lies in a new block. The small functions of control commands: names of kinds, zero identities, heights. Commands compared and checked: slices.Equal at authors, increasing, checkText, Equal. control.Equal: whether two commands are equal. checkText, checkMode. Fields stored into a command that lies in a new block. control.hasForeign. (Command).Check: the first error of a command. Slices of strings that a call owns: made, appended to, joined. -/
import Derived.Lib.Split
import Derived.Lib.SplitLaws
import Derived.Lib.Join
import Derived.Lib.Strings
import Derived.Lib.ItoaNum
import Derived.Test.YteknmbijodbfoaaGreatDoorBA
import Derived.Deep.RegionHeld3
import Derived.Deep.RegionHeldLaw
namespace Go.Proofs.YteknmbijodbfoaaGreatDoor

abbrev Str := List UInt8
/-- The parts into which a byte divides a text. -/
def splitL (c : UInt8) : Str → List Str
  | [] => [[]]
  | x :: xs => if x = c then [] :: splitL c xs else match splitL c xs with
    | [] => [[x]]
    | h :: t => (x :: h) :: t

theorem splitL_none {c : UInt8} : ∀ {s : Str}, c ∉ s → splitL c s = [s]
  | [], _ => rfl
  | x :: xs, h => by
    have h1 : x ≠ c := fun e => h (by rw [e]; exact List.mem_cons_self ..)
    have h2 : c ∉ xs := fun e => h (List.mem_cons_of_mem _ e)
    rw [splitL, if_neg h1, splitL_none h2]
theorem splitL_app {c : UInt8} : ∀ {a : Str} (t : Str), c ∉ a → splitL c (a ++ c :: t) = a :: splitL c t
  | [], t, _ => by rw [List.nil_append, splitL, if_pos rfl]
  | x :: xs, t, h => by
    have h1 : x ≠ c := fun e => h (by rw [e]; exact List.mem_cons_self ..)
    have h2 : c ∉ xs := fun e => h (List.mem_cons_of_mem _ e)
    rw [List.cons_append, splitL, if_neg h1, splitL_app t h2]
/-- A text has the byte nowhere, or a first place of it. -/
theorem first_at (c : UInt8) : ∀ s : Str, c ∉ s ∨ ∃ a t, s = a ++ c :: t ∧ c ∉ a
  | [] => .inl (by simp)
  | x :: xs => by
    by_cases h : x = c
    · exact .inr ⟨[], xs, by rw [h]; rfl, by simp⟩
    · rcases first_at c xs with h1 | ⟨a, t, rfl, h2⟩
      · exact .inl (by simp [h1, Ne.symm h])
      · exact .inr ⟨x :: a, t, rfl, by simp [h2, Ne.symm h]⟩
theorem splitL_ne (c : UInt8) (s : Str) : splitL c s ≠ [] := by
  rcases first_at c s with h | ⟨a, t, rfl, h⟩
  · rw [splitL_none h]; simp
  · rw [splitL_app t h]; simp
theorem splitL_mem {c : UInt8} : ∀ (n : Nat) (s : Str), s.length ≤ n → ∀ a ∈ splitL c s, c ∉ a
  | n, s, hn, a, ha => by
    rcases first_at c s with h | ⟨b, t, rfl, h⟩
    · rw [splitL_none h] at ha; simp at ha; subst ha; exact h
    · rw [splitL_app t h] at ha
      rcases List.mem_cons.1 ha with rfl | ha
      · exact h
      · cases n with
        | zero => simp at hn
        | succ n => exact splitL_mem n t (by simp at hn; omega) a ha
theorem split_clean {c : UInt8} {s a : Str} (h : a ∈ splitL c s) : c ∉ a := splitL_mem s.length s (Nat.le_refl _) a h
theorem join_cons2 (a b : Str) (l : List Str) (sep : Str) : Lib.join (a :: b :: l) sep = a ++ sep ++ Lib.join (b :: l) sep := by
  simp [Lib.join, List.intercalate, List.intersperse]
theorem join_splitL (c : UInt8) : ∀ (n : Nat) (s : Str), s.length ≤ n → Lib.join (splitL c s) [c] = s
  | n, s, hn => by
    rcases first_at c s with h | ⟨b, t, rfl, h⟩
    · rw [splitL_none h, Lib.join_one]
    · rw [splitL_app t h]
      cases n with
      | zero => simp at hn
      | succ n =>
        have ih := join_splitL c n t (by simp at hn; omega)
        cases hs : splitL c t with
        | nil => exact absurd hs (splitL_ne c t)
        | cons x l => rw [join_cons2, ← hs, ih]; simp
theorem join_split (c : UInt8) (s : Str) : Lib.join (splitL c s) [c] = s := join_splitL c s.length s (Nat.le_refl _)
theorem split_join (c : UInt8) : ∀ (l : List Str), l ≠ [] → (∀ a ∈ l, c ∉ a) → splitL c (Lib.join l [c]) = l
  | [], h, _ => absurd rfl h
  | [a], _, h => by rw [Lib.join_one, splitL_none (h a (by simp))]
  | a :: b :: l, _, h => by
    rw [join_cons2, List.append_assoc, List.singleton_append, splitL_app _ (h a (by simp)), split_join c (b :: l) (by simp) (fun x hx => h x (by simp [hx]))]

theorem index_miss {c : UInt8} : ∀ {s : Str}, c ∉ s → Lib.index s [c] = -1
  | [], _ => rfl
  | x :: xs, h => by
    have h1 : ¬ c = x := fun e => h (by rw [e]; exact List.mem_cons_self ..)
    have h2 : c ∉ xs := fun e => h (List.mem_cons_of_mem _ e)
    have hp : ([c] : Str).isPrefixOf (x :: xs) = false := by simp [List.isPrefixOf, h1]
    rw [Lib.index, hp, index_miss h2]; first | done | rfl
theorem index_hit {c : UInt8} : ∀ {a : Str} (t : Str), c ∉ a → Lib.index (a ++ c :: t) [c] = a.length
  | [], t, _ => by rw [List.nil_append, Lib.index]; simp [List.isPrefixOf]
  | x :: xs, t, h => by
    have h1 : ¬ c = x := fun e => h (by rw [e]; exact List.mem_cons_self ..)
    have h2 : c ∉ xs := fun e => h (List.mem_cons_of_mem _ e)
    have hp : ([c] : Str).isPrefixOf (x :: (xs ++ c :: t)) = false := by simp [List.isPrefixOf, h1]
    rw [List.cons_append, Lib.index, hp, index_hit t h2, if_neg (by decide), if_neg (by simp <;> omega)]
    simp
theorem cut_miss {c : UInt8} {s : Str} (h : c ∉ s) : Lib.cut s [c] = (s, [], false) := by
  unfold Lib.cut; rw [index_miss h, if_neg (by decide)]
theorem cut_hit {c : UInt8} {a : Str} (t : Str) (h : c ∉ a) : Lib.cut (a ++ c :: t) [c] = (a, t, true) := by
  unfold Lib.cut; rw [index_hit t h, if_pos (by omega)]; simp
theorem splitK_eq (c : UInt8) : ∀ (n : Nat) (s : Str), s.length ≤ n → Lib.splitK [c] 0 (Lib.count s [c]) s = splitL c s
  | n, s, hn => by
    rcases first_at c s with h | ⟨b, t, rfl, h⟩
    · rw [Lib.count_miss (index_miss h), splitL_none h]; rfl
    · rw [splitL_app t h, Lib.count_hit (by simp) (index_hit t h), Nat.add_comm 1]
      cases n with
      | zero => simp at hn
      | succ n =>
        have ih := splitK_eq c n t (by simp at hn; omega)
        rw [Lib.splitK, index_hit t h, if_neg (by simp <;> omega)]
        have e1 : (b ++ c :: t).take (((b.length : Int)).toNat + 0) = b := by simp
        have e2 : (b ++ c :: t).drop (((b.length : Int)).toNat + ([c] : Str).length) = t := by simp
        have e3 : (b ++ c :: t).drop (b.length + ([c] : Str).length) = t := by simp
        rw [e1, e2, e3, ih]
theorem split_eq (c : UInt8) (s : Str) : Lib.split s [c] = splitL c s := splitK_eq c s.length s (Nat.le_refl _)
theorem head_cut (c : UInt8) (s : Str) : (Lib.cut s [c]).1 = (splitL c s).headD [] := by
  rcases first_at c s with h | ⟨b, t, rfl, h⟩
  · rw [cut_miss h, splitL_none h]; rfl
  · rw [cut_hit t h, splitL_app t h]; rfl
end Go.Proofs.YteknmbijodbfoaaGreatDoor

namespace Go.Proofs.YteknmbijodbfoaaGreatDoor

def isD (c : UInt8) : Bool := decide (48 ≤ c.toNat) && decide (c.toNat ≤ 57)
/-- The value of digits. -/
def numL (s : Str) : Nat := s.foldl (fun n c => 10 * n + (c.toNat - 48)) 0
theorem numL_snoc (s : Str) (c : UInt8) : numL (s ++ [c]) = 10 * numL s + (c.toNat - 48) := by simp [numL]
/-- A number of 1 to 7 digits without superfluous zeros. -/
def numB (s : Str) : Bool := decide (1 ≤ s.length) && decide (s.length ≤ 7) && !(decide (1 < s.length) && s.headD 0 == 48) && s.all isD

theorem dig_nat (d : Nat) (h : d < 10) : (UInt8.ofNat (48 + d)).toNat = 48 + d := by
  rw [UInt8.toNat_ofNat']; omega
theorem dec_small {u : Nat} (h : u < 10) : Lib.decDigits u = [UInt8.ofNat (48 + u)] := Lib.decDigits_one h
theorem dec_big {u : Nat} (h : ¬ u < 10) : Lib.decDigits u = Lib.decDigits (u / 10) ++ [UInt8.ofNat (48 + u % 10)] := by
  rw [Lib.decDigits, dif_neg h]
theorem numL_dec : ∀ (n u : Nat), u ≤ n → numL (Lib.decDigits u) = u
  | n, u, hu => by
    by_cases h : u < 10
    · rw [dec_small h]; show 10 * 0 + ((UInt8.ofNat (48 + u)).toNat - 48) = u; rw [dig_nat u h]; omega
    · cases n with
      | zero => omega
      | succ n =>
        rw [dec_big h, numL_snoc, numL_dec n (u / 10) (by omega), dig_nat _ (by omega)]; omega
theorem isD_dig (d : Nat) (h : d < 10) : isD (UInt8.ofNat (48 + d)) = true := by unfold isD; rw [dig_nat d h]; simp; omega
theorem dec_isD : ∀ (n u : Nat), u ≤ n → (Lib.decDigits u).all isD = true
  | n, u, hu => by
    by_cases h : u < 10
    · rw [dec_small h, List.all_cons, isD_dig u h]; rfl
    · cases n with
      | zero => omega
      | succ n => rw [dec_big h, List.all_append, dec_isD n (u / 10) (by omega), List.all_cons, isD_dig (u % 10) (by omega)]; rfl
theorem dec_ne (u : Nat) : Lib.decDigits u ≠ [] := by
  by_cases h : u < 10
  · rw [dec_small h]; simp
  · rw [dec_big h]; simp
theorem headD_app {a b : Str} (h : a ≠ []) : (a ++ b).headD 0 = a.headD 0 := by cases a with | nil => exact absurd rfl h | cons x l => rfl
theorem dec_head : ∀ (n u : Nat), u ≤ n → 1 ≤ u → ((Lib.decDigits u).headD 0).toNat ≠ 48
  | n, u, hu, h1 => by
    by_cases h : u < 10
    · rw [dec_small h]; show (UInt8.ofNat (48 + u)).toNat ≠ 48; rw [dig_nat u h]; omega
    · cases n with
      | zero => omega
      | succ n => rw [dec_big h, headD_app (dec_ne _)]; exact dec_head n (u / 10) (by omega) (by omega)
theorem dec_len1 {u : Nat} (h : u < 10) : (Lib.decDigits u).length = 1 := by rw [dec_small h]; rfl
theorem dec_len (k u : Nat) (h : u < 10 ^ (k + 1)) : (Lib.decDigits u).length ≤ k + 1 := by
  induction k generalizing u with
  | zero => rw [dec_len1 (by simpa using h)]; omega
  | succ k ih =>
    by_cases h10 : u < 10
    · rw [dec_len1 h10]; omega
    · rw [dec_big h10, List.length_append]
      have := ih (u / 10) (by rw [Nat.pow_succ] at h; omega)
      simp; omega
theorem numB_dec {u : Nat} (h : u < 10000000) : numB (Lib.decDigits u) = true := by
  unfold numB
  have h1 : 1 ≤ (Lib.decDigits u).length := by cases e : Lib.decDigits u with | nil => exact absurd e (dec_ne u) | cons a l => simp
  have h2 := dec_len 6 u (by simpa using h)
  rw [dec_isD u u (Nat.le_refl _)]
  by_cases h10 : u < 10
  · simp [dec_len1 h10]
  · have h3 := dec_head u u (Nat.le_refl _) (by omega)
    have h4 : ((Lib.decDigits u).headD 0 == 48) = false := by
      rw [beq_eq_false_iff_ne]; intro e; rw [e] at h3; exact h3 rfl
    rw [h4]; simp; omega
/-- Digits without superfluous zeros are the digits of their value. -/
theorem dec_numL (s : Str) (hs : s ≠ []) (hd : s.all isD = true) (h0 : s.length = 1 ∨ (s.headD 0).toNat ≠ 48) : Lib.decDigits (numL s) = s ∧ ((s.headD 0).toNat ≠ 48 → 1 ≤ numL s) := by
  have gen : ∀ (n : Nat) (s : Str), s.length ≤ n → s ≠ [] → s.all isD = true → (s.length = 1 ∨ (s.headD 0).toNat ≠ 48) → Lib.decDigits (numL s) = s ∧ ((s.headD 0).toNat ≠ 48 → 1 ≤ numL s) := by
    intro n
    induction n with
    | zero => intro s h hs; exact absurd (List.length_eq_zero_iff.1 (by omega)) hs
    | succ n ih =>
      intro s hn hs hd h0
      rcases List.eq_nil_or_concat s with rfl | ⟨t, c, rfl⟩
      · exact absurd rfl hs
      · rw [List.concat_eq_append] at *
        rw [List.all_append, Bool.and_eq_true] at hd
        have hc : 48 ≤ c.toNat ∧ c.toNat ≤ 57 := by simpa [isD] using hd.2
        have ec : UInt8.ofNat (48 + (c.toNat - 48)) = c := by apply UInt8.toNat_inj.1; rw [dig_nat _ (by omega)]; omega
        rw [numL_snoc]
        by_cases ht : t = []
        · subst ht
          refine ⟨?_, fun h => ?_⟩
          · show Lib.decDigits (10 * 0 + (c.toNat - 48)) = [c]
            rw [Nat.mul_zero, Nat.zero_add, dec_small (by omega), ec]
          · have h : c.toNat ≠ 48 := h
            show 1 ≤ 10 * 0 + (c.toNat - 48); omega
        · have hl : 1 ≤ t.length := by cases t with | nil => exact absurd rfl ht | cons a l => simp
          have hh : (t.headD 0).toNat ≠ 48 := by
            rcases h0 with h0 | h0
            · rw [List.length_append, List.length_singleton] at h0; omega
            · rwa [headD_app ht] at h0
          obtain ⟨e1, e2⟩ := ih t (by simp at hn; omega) ht hd.1 (.inr hh)
          have h1 := e2 hh
          refine ⟨?_, fun _ => by omega⟩
          rw [dec_big (by omega), show (10 * numL t + (c.toNat - 48)) / 10 = numL t by omega, show (10 * numL t + (c.toNat - 48)) % 10 = c.toNat - 48 by omega, e1, ec]
  exact gen s.length s (Nat.le_refl _) hs hd h0
theorem numB_back {s : Str} (h : numB s = true) : Lib.decDigits (numL s) = s := by
  simp only [numB, Bool.and_eq_true, decide_eq_true_eq] at h
  obtain ⟨⟨⟨h1, _⟩, h3⟩, h4⟩ := h
  refine (dec_numL s (by intro e; rw [e] at h1; simp at h1) h4 ?_).1
  by_cases h : s.length = 1
  · exact .inl h
  · right
    have : (s.headD 0 == 48) = false := by simpa [show 1 < s.length by omega] using h3
    intro e
    rw [beq_eq_false_iff_ne] at this
    exact this (UInt8.toNat_inj.1 (by rw [e]; rfl))
theorem numL_lt : ∀ (s : Str), s.all isD = true → numL s < 10 ^ s.length := by
  intro s h
  have gen : ∀ (n : Nat) (s : Str), s.length ≤ n → s.all isD = true → numL s < 10 ^ s.length := by
    intro n
    induction n with
    | zero =>
      intro s h _
      have e : s = [] := List.length_eq_zero_iff.1 (by omega)
      subst e; decide
    | succ n ih =>
      intro s hn hd
      rcases List.eq_nil_or_concat s with rfl | ⟨t, c, rfl⟩
      · decide
      · rw [List.concat_eq_append] at *
        rw [List.all_append, Bool.and_eq_true] at hd
        have hc : 48 ≤ c.toNat ∧ c.toNat ≤ 57 := by simpa [isD] using hd.2
        have := ih t (by simp at hn; omega) hd.1
        rw [numL_snoc, List.length_append, List.length_singleton, Nat.pow_succ]
        omega
  exact gen s.length s (Nat.le_refl _) h
end Go.Proofs.YteknmbijodbfoaaGreatDoor

namespace Go.Proofs.YteknmbijodbfoaaGreatDoor
open Go.RowKit

/-- A command; its moderators as a list. -/
structure Cm where
  kind : Int
  target : Id
  group : ByteArray
  version : Int
  moderated : Bool
  mods : List Aut
  text : ByteArray
  number : Int
  height : Int
  root : Aut
  deriving DecidableEq
/-- The public key's cells. -/
def pubC (h : Int) (r : Aut) : List Value := .int .i64 h :: bC r
/-- The command's cells; v: the slice of its moderators. -/
def cmC (c : Cm) (v : Value) : List Value := [.int .i64 c.kind] ++ (bC c.target ++ ([.string c.group, .int .i64 c.version, .bool c.moderated, v, .string c.text, .int .i64 c.number] ++ pubC c.height c.root))
theorem pubC_length (h : Int) (r : Aut) : (pubC h r).length = 17 := by simp [pubC, bC_length]
theorem cmC_length (c : Cm) (v : Value) : (cmC c v).length = 56 := by simp [cmC, bC_length, pubC_length]
theorem oneB_pub (h : Int) (r : Aut) : oneB (pubC h r) = true := by rw [pubC, oneB_cons, oneB_bC]; rfl
section
variable (c : Cm) (v : Value)
theorem cm_kind : (cmC c v)[0]? = some (.int .i64 c.kind) := rfl
theorem cm_target : rowOf (cmC c v) 1 32 = bC c.target := by
  unfold cmC; rw [rowOf_app_r _ _ _ _ 1 rfl (by decide)]; exact rowOf_app_l _ _ _ (bC_length _)
theorem cm_at (k : Nat) (h : 33 ≤ k) : (cmC c v)[k]? = ([Value.string c.group, .int .i64 c.version, .bool c.moderated, v, .string c.text, .int .i64 c.number] ++ pubC c.height c.root)[k - 33]? := by
  unfold cmC; rw [get_app_r _ _ _ 1 rfl (by omega), get_app_r _ _ _ 32 (bC_length _) (by omega), Nat.sub_sub]
theorem cm_group : (cmC c v)[33]? = some (.string c.group) := cm_at c v 33 (by decide)
theorem cm_version : (cmC c v)[34]? = some (.int .i64 c.version) := cm_at c v 34 (by decide)
theorem cm_moderated : (cmC c v)[35]? = some (.bool c.moderated) := cm_at c v 35 (by decide)
theorem cm_mods : (cmC c v)[36]? = some v := cm_at c v 36 (by decide)
theorem cm_text : (cmC c v)[37]? = some (.string c.text) := cm_at c v 37 (by decide)
theorem cm_number : (cmC c v)[38]? = some (.int .i64 c.number) := cm_at c v 38 (by decide)
theorem cm_height : (cmC c v)[39]? = some (.int .i64 c.height) := cm_at c v 39 (by decide)
theorem cm_pub : rowOf (cmC c v) 39 17 = pubC c.height c.root := by
  unfold cmC; rw [rowOf_app_r _ _ _ _ 1 rfl (by decide), rowOf_app_r _ _ _ _ 32 (bC_length _) (by decide), rowOf_app_r _ _ _ _ 6 rfl (by decide)]; exact rowOf_all _ _ (pubC_length _ _)
theorem pub_root (h : Int) (r : Aut) : rowOf (pubC h r) 1 16 = bC r := by
  unfold pubC; rw [rowOf_cons _ _ _ _ (by decide)]; exact rowOf_all _ _ (bC_length _)
theorem cm_root : rowOf (cmC c v) 40 16 = bC c.root := by
  unfold cmC; rw [rowOf_app_r _ _ _ _ 1 rfl (by decide), rowOf_app_r _ _ _ _ 32 (bC_length _) (by decide), rowOf_app_r _ _ _ _ 6 rfl (by decide)]; exact pub_root _ _
theorem cm_whole : rowOf (cmC c v) 0 56 = cmC c v := rowOf_all _ _ (cmC_length c v)
theorem cm_kind' (h : 0 < (cmC c v).length) : (cmC c v)[0] = .int .i64 c.kind := get_of (cm_kind c v) h
theorem cm_group' (h : 33 < (cmC c v).length) : (cmC c v)[33] = .string c.group := get_of (cm_group c v) h
theorem cm_version' (h : 34 < (cmC c v).length) : (cmC c v)[34] = .int .i64 c.version := get_of (cm_version c v) h
theorem cm_moderated' (h : 35 < (cmC c v).length) : (cmC c v)[35] = .bool c.moderated := get_of (cm_moderated c v) h
theorem cm_mods' (h : 36 < (cmC c v).length) : (cmC c v)[36] = v := get_of (cm_mods c v) h
theorem cm_text' (h : 37 < (cmC c v).length) : (cmC c v)[37] = .string c.text := get_of (cm_text c v) h
theorem cm_number' (h : 38 < (cmC c v).length) : (cmC c v)[38] = .int .i64 c.number := get_of (cm_number c v) h
theorem cm_height' (h : 39 < (cmC c v).length) : (cmC c v)[39] = .int .i64 c.height := get_of (cm_height c v) h
theorem cm_one (hv : v.oneCell' = true) : oneB (cmC c v) = true := by
  rw [cmC, oneB_append, oneB_append, oneB_append, oneB_bC, oneB_pub]; simp only [oneB, List.all_cons, List.all_nil, hv, Bool.and_true]; rfl
end
/-- The zero command of a kind. -/
def zAut : Aut := Vector.replicate 16 0
def zId : Id := Vector.replicate 32 0
def cm0 (k : Int) : Cm := ⟨k, zId, ⟨#[]⟩, 0, false, [], ⟨#[]⟩, 0, 0, zAut⟩
def bs (l : Str) : ByteArray := ⟨l.toArray⟩
theorem bl_bs (l : Str) : bl (bs l) = l := rfl
theorem bs_bl (s : ByteArray) : bs (bl s) = s := rfl
end Go.Proofs.YteknmbijodbfoaaGreatDoor

namespace Go.Proofs.YteknmbijodbfoaaGreatDoor
open Go.RowKit

def hexS : Str := [48, 49, 50, 51, 52, 53, 54, 55, 56, 57, 97, 98, 99, 100, 101, 102]
def hexV (c : UInt8) : Int := Lib.indexByte hexS c
def hexN (c : UInt8) : UInt8 := UInt8.ofNat (hexV c).toNat
def hexB (c : UInt8) : Bool := decide (0 ≤ hexV c)
def hexD (n : Nat) : UInt8 := hexS.getD n 0
/-- The digits of bytes. -/
def hexT (l : List UInt8) : Str := l.flatMap fun b => [hexD (b.toNat / 16), hexD (b.toNat % 16)]
/-- The bytes of pairs of digits. -/
def unhex : Str → List UInt8
  | a :: b :: l => (hexN a <<< 4 ||| hexN b) :: unhex l
  | _ => []
def vecOf (n : Nat) (l : List UInt8) : Vector UInt8 n := Vector.ofFn fun i => l.getD i.val 0
theorem vecOf_toList {n : Nat} {l : List UInt8} (h : l.length = n) : (vecOf n l).toList = l := by
  apply List.ext_getElem?
  intro i
  rw [Vector.getElem?_toList]
  by_cases hi : i < n
  · rw [Vector.getElem?_eq_getElem hi]
    simp [vecOf, hi, h]
  · rw [Vector.getElem?_eq_none (by omega), List.getElem?_eq_none (by omega)]
theorem vecOf_self {n : Nat} (x : Vector UInt8 n) : vecOf n x.toList = x := Vector.toList_inj.1 (vecOf_toList (by simp))

theorem all_u8 {p : UInt8 → Prop} (h : ∀ i : Fin 256, p (UInt8.ofNat i.val)) (c : UInt8) : p c := by
  have := h ⟨c.toNat, c.toNat_lt⟩
  simpa using this
theorem hex_back : ∀ c : UInt8, hexB c = true → hexD (hexV c).toNat = c ∧ (hexV c).toNat < 16 ∧ (hexN c).toNat = (hexV c).toNat := all_u8 (by decide +kernel)
theorem hexD_fin : ∀ i : Fin 16, hexB (hexD i.val) = true ∧ hexN (hexD i.val) = UInt8.ofNat i.val ∧ hexD i.val ≠ 32 ∧ hexD i.val ≠ 44 ∧ 32 < hexD i.val ∧ hexD i.val < 127 := by decide +kernel
theorem hexD_at (i : Nat) (h : i < 16) : hexB (hexD i) = true ∧ hexN (hexD i) = UInt8.ofNat i ∧ hexD i ≠ 32 ∧ hexD i ≠ 44 ∧ 32 < hexD i ∧ hexD i < 127 := hexD_fin ⟨i, h⟩
theorem two_digits : ∀ b : UInt8, UInt8.ofNat (b.toNat / 16) <<< 4 ||| UInt8.ofNat (b.toNat % 16) = b := all_u8 (by decide +kernel)
theorem two_fin : ∀ i j : Fin 16, (UInt8.ofNat i.val <<< 4 ||| UInt8.ofNat j.val).toNat = 16 * i.val + j.val := by decide +kernel
theorem two_at (i j : Nat) (hi : i < 16) (hj : j < 16) : (UInt8.ofNat i <<< 4 ||| UInt8.ofNat j).toNat = 16 * i + j := two_fin ⟨i, hi⟩ ⟨j, hj⟩
theorem hexT_nil : hexT [] = [] := rfl
theorem hexT_cons (b : UInt8) (l : List UInt8) : hexT (b :: l) = hexD (b.toNat / 16) :: hexD (b.toNat % 16) :: hexT l := rfl
theorem hexT_len (l : List UInt8) : (hexT l).length = 2 * l.length := by
  induction l with
  | nil => rfl
  | cons b l ih => rw [hexT_cons]; simp only [List.length_cons, ih]; omega
theorem hexT_all {p : UInt8 → Prop} (h : ∀ i, i < 16 → p (hexD i)) (l : List UInt8) : ∀ c ∈ hexT l, p c := by
  intro c hc
  obtain ⟨b, _, hb⟩ := List.mem_flatMap.1 hc
  have := b.toNat_lt
  rcases List.mem_cons.1 hb with rfl | hb
  · exact h _ (by omega)
  · rw [List.mem_singleton] at hb; subst hb; exact h _ (by omega)
theorem hexT_hex (l : List UInt8) : (hexT l).all hexB = true := List.all_eq_true.2 (hexT_all (p := fun c => hexB c = true) (fun i hi => (hexD_at i hi).1) l)
theorem unhex_hexT (l : List UInt8) : unhex (hexT l) = l := by
  induction l with
  | nil => rfl
  | cons b l ih =>
    have := b.toNat_lt
    rw [hexT_cons, unhex, ih, (hexD_at (b.toNat / 16) (by omega)).2.1, (hexD_at (b.toNat % 16) (by omega)).2.1, two_digits]
theorem hexT_unhex : ∀ (n : Nat) (s : Str), s.length = 2 * n → s.all hexB = true → hexT (unhex s) = s
  | 0, s, h, _ => by
    have e : s = [] := List.length_eq_zero_iff.1 (by omega)
    subst e; rfl
  | n + 1, s, h, hd => by
    obtain ⟨a, b, l, rfl⟩ : ∃ a b l, s = a :: b :: l := by
      match s, h with
      | a :: b :: l, _ => exact ⟨a, b, l, rfl⟩
      | [a], h => simp at h; omega
      | [], h => simp at h
    simp only [List.all_cons, Bool.and_eq_true] at hd
    obtain ⟨a1, a2, a3⟩ := hex_back a hd.1
    obtain ⟨b1, b2, b3⟩ := hex_back b hd.2.1
    have ht := two_at (hexV a).toNat (hexV b).toNat a2 b2
    rw [unhex, hexT_cons, hexT_unhex n l (by simp at h; omega) hd.2.2]
    have e : (hexN a <<< 4 ||| hexN b).toNat = 16 * (hexV a).toNat + (hexV b).toNat := ht
    rw [e, show (16 * (hexV a).toNat + (hexV b).toNat) / 16 = (hexV a).toNat by omega, show (16 * (hexV a).toNat + (hexV b).toNat) % 16 = (hexV b).toNat by omega, a1, b1]
theorem unhex_len : ∀ (n : Nat) (s : Str), s.length = 2 * n → (unhex s).length = n
  | 0, s, h => by
    have e : s = [] := List.length_eq_zero_iff.1 (by omega)
    subst e; rfl
  | n + 1, s, h => by
    match s, h with
    | a :: b :: l, h => rw [unhex, List.length_cons, unhex_len n l (by simp at h; omega)]
    | [a], h => simp at h; omega
    | [], h => simp at h

/-! ### digits put one after the other into bytes -/
def putD (l : List UInt8) (i : Nat) (v : UInt8) : List UInt8 := l.set (i / 2) (l.getD (i / 2) 0 <<< 4 ||| v)
def digTo (n : Nat) (s : Str) : Nat → List UInt8
  | 0 => List.replicate n 0
  | i + 1 => putD (digTo n s i) i (hexN (s.getD i 0))
theorem digTo_len (n : Nat) (s : Str) : ∀ i, (digTo n s i).length = n
  | 0 => by simp [digTo]
  | i + 1 => by rw [digTo, putD, List.length_set, digTo_len n s i]
theorem shl_zero : ∀ v : UInt8, (((0 : UInt8) <<< 4 ||| v)) = v := all_u8 (by decide +kernel)
theorem unhex_pair : ∀ (j : Nat) (s : Str), 2 * j + 1 < s.length → (unhex s)[j]? = some (hexN (s.getD (2 * j) 0) <<< 4 ||| hexN (s.getD (2 * j + 1) 0))
  | 0, s, h => by
    match s, h with
    | a :: b :: l, _ => rfl
    | [a], h => simp at h
    | [], h => simp at h
  | j + 1, s, h => by
    match s, h with
    | a :: b :: l, h =>
      rw [unhex, List.getElem?_cons_succ, unhex_pair j l (by simp at h; omega)]
      rw [show 2 * (j + 1) = 2 * j + 1 + 1 by omega]; rfl
    | [a], h => simp at h
    | [], h => simp at h
theorem digTo_even (n : Nat) (s : Str) (hs : s.length = 2 * n) : ∀ j, j ≤ n → digTo n s (2 * j) = (unhex s).take j ++ List.replicate (n - j) 0
  | 0, _ => by simp [digTo]
  | j + 1, h => by
    have ih := digTo_even n s hs j (by omega)
    have hl := unhex_len n s hs
    have e : 2 * (j + 1) = 2 * j + 1 + 1 := by omega
    have hp := unhex_pair j s (by omega)
    have ht : ((unhex s).take j).length = j := by rw [List.length_take]; omega
    have hr : List.replicate (n - j) (0 : UInt8) = 0 :: List.replicate (n - (j + 1)) 0 := by rw [show n - j = (n - (j + 1)) + 1 by omega]; rfl
    rw [e, digTo, digTo, ih, hr]
    have d1 : 2 * j / 2 = j := by omega
    have d2 : (2 * j + 1) / 2 = j := by omega
    have s1 : ∀ (v : UInt8) (r : List UInt8), ((unhex s).take j ++ v :: r).getD j 0 = v := by
      intro v r; rw [List.getD_eq_getElem?_getD, List.getElem?_append_right (by omega), ht, Nat.sub_self]; rfl
    have s2 : ∀ (v u : UInt8) (r : List UInt8), ((unhex s).take j ++ v :: r).set j u = (unhex s).take j ++ u :: r := by
      intro v u r; rw [List.set_append_right _ _ (by omega), ht, Nat.sub_self]; rfl
    unfold putD
    rw [d1, d2, s1, s2, s1, s2, shl_zero]
    have ex : j < (unhex s).length := by omega
    rw [List.take_succ_eq_append_getElem ex, List.append_assoc, List.singleton_append]
    rw [List.getElem?_eq_getElem ex] at hp
    rw [Option.some.inj hp]
theorem digTo_all (n : Nat) (s : Str) (hs : s.length = 2 * n) : digTo n s (2 * n) = unhex s := by
  rw [digTo_even n s hs n (Nat.le_refl _), Nat.sub_self, List.take_of_length_le (by rw [unhex_len n s hs]; exact Nat.le_refl _)]; simp
end Go.Proofs.YteknmbijodbfoaaGreatDoor

namespace Go.Proofs.YteknmbijodbfoaaGreatDoor
open Go.RowKit

/-! ### bits -/
def valB (l : List Bool) : Nat := l.foldl (fun n b => 2 * n + b.toNat) 0
theorem valB_snoc (l : List Bool) (b : Bool) : valB (l ++ [b]) = 2 * valB l + b.toNat := by simp [valB]
theorem valB_app (a : List Bool) : ∀ b : List Bool, valB (a ++ b) = valB a * 2 ^ b.length + valB b := by
  intro b
  have gen : ∀ (n : Nat) (b : List Bool), b.length = n → valB (a ++ b) = valB a * 2 ^ b.length + valB b := by
    intro n
    induction n with
    | zero => intro b h; rw [List.length_eq_zero_iff.1 h]; simp [valB]
    | succ n ih =>
      intro b h
      rcases List.eq_nil_or_concat b with rfl | ⟨t, c, rfl⟩
      · simp at h
      · rw [List.concat_eq_append] at *
        have ht : t.length = n := by simpa using h
        rw [← List.append_assoc, valB_snoc, valB_snoc, ih t ht, List.length_append, List.length_singleton, Nat.pow_succ, Nat.mul_add, ← Nat.mul_assoc (valB a) _ 2, Nat.mul_comm 2 (valB a * 2 ^ t.length), Nat.add_assoc]
  exact gen b.length b rfl
theorem valB_lt : ∀ l : List Bool, valB l < 2 ^ l.length := by
  intro l
  have gen : ∀ (n : Nat) (l : List Bool), l.length = n → valB l < 2 ^ l.length := by
    intro n
    induction n with
    | zero => intro b h; rw [List.length_eq_zero_iff.1 h]; decide
    | succ n ih =>
      intro b h
      rcases List.eq_nil_or_concat b with rfl | ⟨t, c, rfl⟩
      · simp at h
      · rw [List.concat_eq_append] at *
        have := ih t (by simpa using h)
        rw [valB_snoc, List.length_append, List.length_singleton, Nat.pow_succ]
        cases c <;> simp [Bool.toNat] <;> omega
  exact gen l.length l rfl
/-- The k lowest bits of a number, the greatest first. -/
def bitsK : Nat → Nat → List Bool
  | 0, _ => []
  | k + 1, v => bitsK k (v / 2) ++ [v % 2 == 1]
theorem bitsK_len : ∀ k v, (bitsK k v).length = k
  | 0, _ => rfl
  | k + 1, v => by rw [bitsK, List.length_append, bitsK_len k]; rfl
theorem valB_bitsK : ∀ k v, v < 2 ^ k → valB (bitsK k v) = v
  | 0, v, h => by have : v = 0 := by simpa using h
                  rw [this]; rfl
  | k + 1, v, h => by
    rw [bitsK, valB_snoc, valB_bitsK k (v / 2) (by rw [Nat.pow_succ] at h; omega)]
    have : (v % 2 == 1).toNat = v % 2 := by
      rcases Nat.mod_two_eq_zero_or_one v with e | e <;> rw [e] <;> rfl
    rw [this]; omega
theorem bitsK_valB : ∀ (k : Nat) (l : List Bool), l.length = k → bitsK k (valB l) = l
  | 0, l, h => by rw [List.length_eq_zero_iff.1 h]; rfl
  | k + 1, l, h => by
    rcases List.eq_nil_or_concat l with rfl | ⟨t, c, rfl⟩
    · simp at h
    · rw [List.concat_eq_append] at *
      rw [bitsK, valB_snoc]
      have ht : t.length = k := by simpa using h
      have e1 : (2 * valB t + c.toNat) / 2 = valB t := by cases c <;> simp [Bool.toNat] <;> omega
      have e2 : ((2 * valB t + c.toNat) % 2 == 1) = c := by cases c <;> simp [Bool.toNat] <;> omega
      rw [e1, e2, bitsK_valB k t ht]
/-- Whole groups of k bits, and what is left. -/
def grpN (k : Nat) : Nat → List Bool → List Nat × List Bool
  | 0, l => ([], l)
  | f + 1, l => if l.length < k then ([], l) else (valB (l.take k) :: (grpN k f (l.drop k)).1, (grpN k f (l.drop k)).2)
def grp (k : Nat) (l : List Bool) : List Nat × List Bool := grpN k l.length l
theorem grpN_enough (k : Nat) (hk : 0 < k) : ∀ (f g : Nat) (l : List Bool), l.length ≤ f → l.length ≤ g → grpN k f l = grpN k g l
  | 0, 0, _, _, _ => rfl
  | 0, g + 1, l, h, _ => by rw [grpN, grpN, if_pos (by omega)]
  | f + 1, 0, l, _, h => by rw [grpN, grpN, if_pos (by omega)]
  | f + 1, g + 1, l, h1, h2 => by
    rw [grpN, grpN]
    split
    · rfl
    · rw [grpN_enough k hk f g (l.drop k) (by simp; omega) (by simp; omega)]
theorem grp_short {k : Nat} {l : List Bool} (h : l.length < k) : grp k l = ([], l) := by
  unfold grp
  cases e : l.length with
  | zero => rfl
  | succ n => rw [grpN, if_pos h]
theorem grp_cons {k : Nat} (hk : 0 < k) {a l : List Bool} (h : a.length = k) : grp k (a ++ l) = (valB a :: (grp k l).1, (grp k l).2) := by
  unfold grp
  rw [List.length_append, h]
  obtain ⟨j, rfl⟩ := Nat.exists_eq_succ_of_ne_zero (Nat.ne_of_gt hk)
  rw [Nat.succ_add, grpN, if_neg (by simp [h]), List.take_left' h, List.drop_left' h, grpN_enough _ hk (j + l.length) l.length l (by omega) (Nat.le_refl _)]
theorem grp_step {k : Nat} (hk : 0 < k) {l : List Bool} (h : k ≤ l.length) : grp k l = (valB (l.take k) :: (grp k (l.drop k)).1, (grp k (l.drop k)).2) := by
  have := grp_cons hk (a := l.take k) (l := l.drop k) (by rw [List.length_take]; omega)
  rwa [List.take_append_drop] at this
theorem grp_left {k : Nat} (hk : 0 < k) : ∀ (n : Nat) (l : List Bool), l.length ≤ n → (grp k l).2.length < k
  | 0, l, h => by rw [grp_short (by omega)]; show l.length < k; omega
  | n + 1, l, h => by
    by_cases hs : l.length < k
    · rw [grp_short hs]; exact hs
    · rw [grp_step hk (by omega)]; exact grp_left hk n (l.drop k) (by simp; omega)
theorem grp_app {k : Nat} (hk : 0 < k) : ∀ (n : Nat) (a b : List Bool), a.length ≤ n → grp k (a ++ b) = ((grp k a).1 ++ (grp k ((grp k a).2 ++ b)).1, (grp k ((grp k a).2 ++ b)).2)
  | 0, a, b, h => by
    have e : a = [] := List.length_eq_zero_iff.1 (by omega)
    subst e
    rw [grp_short (k := k) (l := []) hk]; rfl
  | n + 1, a, b, h => by
    by_cases hs : a.length < k
    · rw [grp_short hs]; rfl
    · rw [grp_step hk (l := a) (by omega), grp_step hk (l := a ++ b) (by simp; omega), List.take_append_of_le_length (by omega), List.drop_append_of_le_length (by omega), grp_app hk n (a.drop k) b (by simp; omega)]
      rfl
theorem grp_flat {k : Nat} (hk : 0 < k) : ∀ (vs : List Nat) (r : List Bool), (∀ v ∈ vs, v < 2 ^ k) → r.length < k → grp k (vs.flatMap (bitsK k) ++ r) = (vs, r)
  | [], r, _, hr => grp_short hr
  | v :: vs, r, h, hr => by
    rw [List.flatMap_cons, List.append_assoc, grp_cons hk (bitsK_len k v), valB_bitsK k v (h v (by simp)), grp_flat hk vs r (fun x hx => h x (by simp [hx])) hr]
theorem grp_back {k : Nat} (hk : 0 < k) : ∀ (n : Nat) (l : List Bool), l.length ≤ n → (grp k l).1.flatMap (bitsK k) ++ (grp k l).2 = l ∧ ∀ v ∈ (grp k l).1, v < 2 ^ k
  | 0, l, h => by
    have e : l = [] := List.length_eq_zero_iff.1 (by omega)
    subst e
    rw [grp_short (k := k) (l := []) hk]; exact ⟨rfl, fun v hv => by cases hv⟩
  | n + 1, l, h => by
    by_cases hs : l.length < k
    · rw [grp_short hs]; exact ⟨rfl, fun v hv => by cases hv⟩
    · have hl : (l.take k).length = k := by rw [List.length_take]; omega
      obtain ⟨e1, e2⟩ := grp_back hk n (l.drop k) (by simp; omega)
      rw [grp_step hk (by omega)]
      refine ⟨?_, fun v hv => ?_⟩
      · show (valB (l.take k) :: (grp k (l.drop k)).1).flatMap (bitsK k) ++ (grp k (l.drop k)).2 = l
        rw [List.flatMap_cons, bitsK_valB k _ hl, List.append_assoc, e1, List.take_append_drop]
      · rcases List.mem_cons.1 hv with rfl | hv
        · have := valB_lt (l.take k); rwa [hl] at this
        · exact e2 v hv
end Go.Proofs.YteknmbijodbfoaaGreatDoor

namespace Go.Proofs.YteknmbijodbfoaaGreatDoor
open Go.RowKit

def b64S : Str := [65, 66, 67, 68, 69, 70, 71, 72, 73, 74, 75, 76, 77, 78, 79, 80, 81, 82, 83, 84, 85, 86, 87, 88, 89, 90, 97, 98, 99, 100, 101, 102, 103, 104, 105, 106, 107, 108, 109, 110, 111, 112, 113, 114, 115, 116, 117, 118, 119, 120, 121, 122, 48, 49, 50, 51, 52, 53, 54, 55, 56, 57, 43, 47]
def b64C (v : Nat) : UInt8 := b64S.getD v 0
def b64V (c : UInt8) : Int := Lib.indexByte b64S c
def b64B (c : UInt8) : Bool := decide (0 ≤ b64V c)
theorem b64C_fin : ∀ i : Fin 64, b64V (b64C i.val) = i.val ∧ b64C i.val ≠ 61 ∧ b64C i.val ≠ 32 ∧ b64C i.val ≠ 44 ∧ 32 < b64C i.val ∧ b64C i.val < 127 := by decide +kernel
theorem b64C_at {i : Nat} (h : i < 64) : b64V (b64C i) = i ∧ b64C i ≠ 61 ∧ b64C i ≠ 32 ∧ b64C i ≠ 44 ∧ 32 < b64C i ∧ b64C i < 127 := b64C_fin ⟨i, h⟩
theorem b64_back : ∀ c : UInt8, b64B c = true → b64C (b64V c).toNat = c ∧ (b64V c).toNat < 64 := all_u8 (by decide +kernel)
theorem b64_pad : b64B 61 = false := by decide +kernel

/-- What follows the whole groups: one group more, filled up with zeros. -/
def encB (r : List Nat × List Bool) : Str := r.1.map b64C ++ (if r.2 = [] then [] else [b64C (valB r.2 * 2 ^ (6 - r.2.length))])
def padT (t : Str) : Str := t ++ List.replicate ((4 - t.length % 4) % 4) 61
def bits8 (l : List UInt8) : List Bool := l.flatMap fun b => bitsK 8 b.toNat
def encL (l : List UInt8) : Str := padT (encB (grp 6 (bits8 l)))

/-- The characters ahead of those = that are in place. -/
def datN (s : Str) : Nat :=
  if s.length = 0 ∨ s.length % 4 ≠ 0 ∨ s.getD (s.length - 1) 0 ≠ 61 then s.length else if s.getD (s.length - 2) 0 = 61 then s.length - 2 else s.length - 1
def bits6 (s : Str) : List Bool := s.flatMap fun c => bitsK 6 (b64V c).toNat
def decR (s : Str) : List Nat × List Bool := grp 8 (bits6 (s.take (datN s)))
def badB64 (s : Str) : Nat := ((s.take (datN s)).takeWhile b64B).length
def decE (s : Str) : Int :=
  if 174764 < s.length then 5 else if badB64 s < datN s then 6 else if s.length % 4 ≠ 0 then 4 else if valB (decR s).2 ≠ 0 then 3 else 0
def decB (s : Str) : List UInt8 := (decR s).1.map UInt8.ofNat

theorem valB_zero : ∀ (l : List Bool), valB l = 0 → l = List.replicate l.length false := by
  intro l
  have gen : ∀ (n : Nat) (l : List Bool), l.length = n → valB l = 0 → l = List.replicate n false := by
    intro n
    induction n with
    | zero => intro l h _; rw [List.length_eq_zero_iff.1 h]; rfl
    | succ n ih =>
      intro l h hv
      rcases List.eq_nil_or_concat l with rfl | ⟨t, c, rfl⟩
      · simp at h
      · rw [List.concat_eq_append] at *
        rw [valB_snoc] at hv
        have hc : c = false := by cases c <;> simp [Bool.toNat] at hv ⊢
        have ht : t.length = n := by simpa using h
        have := ih t ht (by omega)
        rw [this, hc]; simp [List.replicate_succ']
  exact gen l.length l rfl
theorem valB_repl (n : Nat) : valB (List.replicate n false) = 0 := by
  induction n with
  | zero => rfl
  | succ n ih => rw [List.replicate_succ', valB_snoc, ih]; rfl
theorem bits8_len (l : List UInt8) : (bits8 l).length = 8 * l.length := by
  induction l with
  | nil => rfl
  | cons b l ih => unfold bits8 at *; rw [List.flatMap_cons, List.length_append, ih, bitsK_len, List.length_cons]; omega
theorem bits6_len (s : Str) : (bits6 s).length = 6 * s.length := by
  induction s with
  | nil => rfl
  | cons b l ih => unfold bits6 at *; rw [List.flatMap_cons, List.length_append, ih, bitsK_len, List.length_cons]; omega
theorem grp_len {k : Nat} (hk : 0 < k) (l : List Bool) : k * (grp k l).1.length + (grp k l).2.length = l.length := by
  have h := (grp_back hk l.length l (Nat.le_refl _)).1
  have e : ∀ vs : List Nat, (vs.flatMap (bitsK k)).length = k * vs.length := by
    intro vs
    induction vs with
    | nil => rfl
    | cons v vs ih => rw [List.flatMap_cons, List.length_append, ih, bitsK_len, List.length_cons, Nat.mul_succ]; omega
  have := congrArg List.length h
  rw [List.length_append, e] at this
  exact this
/-- The data characters of an encoding, as groups of bits. -/
theorem bits6_map (vs : List Nat) (h : ∀ v ∈ vs, v < 64) : bits6 (vs.map b64C) = vs.flatMap (bitsK 6) := by
  induction vs with
  | nil => rfl
  | cons v vs ih =>
    unfold bits6 at *
    rw [List.map_cons, List.flatMap_cons, List.flatMap_cons, ih (fun x hx => h x (by simp [hx])), (b64C_at (h v (by simp))).1]; rfl
theorem bits6_encB (l : List Bool) : ∃ p, p < 6 ∧ bits6 (encB (grp 6 l)) = l ++ List.replicate p false ∧ (encB (grp 6 l)).all b64B = true := by
  obtain ⟨h1, h2⟩ := grp_back (k := 6) (by decide) l.length l (Nat.le_refl _)
  have h3 := grp_left (k := 6) (by decide) l.length l (Nat.le_refl _)
  generalize grp 6 l = r at *
  obtain ⟨vs, rm⟩ := r
  simp only at h1 h2 h3
  have hv : (vs.map b64C).all b64B = true := by
    rw [List.all_eq_true]; intro c hc
    obtain ⟨v, hv, rfl⟩ := List.mem_map.1 hc
    unfold b64B; rw [(b64C_at (h2 v hv)).1]; simp
  unfold encB
  by_cases hr : rm = []
  · refine ⟨0, by decide, ?_, by simpa [hr] using hv⟩
    rw [if_pos hr, List.append_nil, bits6_map vs h2, ← h1, hr]; simp
  · have hlt := valB_lt rm
    have hlt2 : valB rm * 2 ^ (6 - rm.length) < 64 := by
      have e : 2 ^ rm.length * 2 ^ (6 - rm.length) = 64 := by rw [← Nat.pow_add, show rm.length + (6 - rm.length) = 6 by omega]
      rw [← e]; exact Nat.mul_lt_mul_of_pos_right hlt (Nat.pow_pos (by decide))
    refine ⟨6 - rm.length, ?_, ?_, ?_⟩
    · have : 0 < rm.length := List.length_pos_iff.2 hr
      omega
    · rw [if_neg hr]
      have e1 : bits6 (vs.map b64C ++ [b64C (valB rm * 2 ^ (6 - rm.length))]) = bits6 (vs.map b64C) ++ bits6 [b64C (valB rm * 2 ^ (6 - rm.length))] := by unfold bits6; rw [List.flatMap_append]
      have e2 : bits6 [b64C (valB rm * 2 ^ (6 - rm.length))] = rm ++ List.replicate (6 - rm.length) false := by
        have : bits6 [b64C (valB rm * 2 ^ (6 - rm.length))] = bitsK 6 (valB rm * 2 ^ (6 - rm.length)) := by
          have := bits6_map [valB rm * 2 ^ (6 - rm.length)] (by intro v hv; rw [List.mem_singleton.1 hv]; exact hlt2)
          simpa using this
        rw [this]
        have e3 : valB (rm ++ List.replicate (6 - rm.length) false) = valB rm * 2 ^ (6 - rm.length) := by rw [valB_app, valB_repl, List.length_replicate, Nat.add_zero]
        rw [← e3, bitsK_valB 6 _ (by simp; omega)]
      rw [e1, e2, bits6_map vs h2, ← h1, List.append_assoc]
    · have hb : b64B (b64C (valB rm * 2 ^ (6 - rm.length))) = true := by
        unfold b64B; rw [(b64C_at hlt2).1]; exact decide_eq_true (Int.natCast_nonneg _)
      rw [if_neg hr, List.all_append, hv, List.all_cons, hb]; rfl

theorem bits8_eq (l : List UInt8) : bits8 l = (l.map UInt8.toNat).flatMap (bitsK 8) := by
  unfold bits8; rw [List.flatMap_map]
theorem getD_app_l {a b : Str} {k : Nat} (h : k < a.length) : (a ++ b).getD k 0 = a.getD k 0 := by
  rw [List.getD_eq_getElem?_getD, List.getElem?_append_left h, ← List.getD_eq_getElem?_getD]
theorem getD_app_r {a b : Str} {k : Nat} (h : a.length ≤ k) : (a ++ b).getD k 0 = b.getD (k - a.length) 0 := by
  rw [List.getD_eq_getElem?_getD, List.getElem?_append_right h, ← List.getD_eq_getElem?_getD]
theorem getD_all {p : UInt8 → Bool} {s : Str} (h : s.all p = true) {k : Nat} (hk : k < s.length) : p (s.getD k 0) = true := by
  rw [List.getD_eq_getElem?_getD, List.getElem?_eq_getElem hk]
  exact List.all_eq_true.1 h _ (List.getElem_mem hk)
theorem takeWhile_app_all {p : UInt8 → Bool} : ∀ {s : Str}, s.all p = true → (s.takeWhile p).length = s.length
  | [], _ => rfl
  | c :: s, h => by
    simp only [List.all_cons, Bool.and_eq_true] at h
    rw [List.takeWhile_cons, if_pos h.1, List.length_cons, takeWhile_app_all h.2, List.length_cons]
theorem all_of_takeWhile {p : UInt8 → Bool} : ∀ {s : Str}, s.length ≤ (s.takeWhile p).length → s.all p = true
  | [], _ => rfl
  | c :: s, h => by
    rw [List.takeWhile_cons] at h
    split at h
    · rename_i hc
      rw [List.all_cons, hc, all_of_takeWhile (by simpa using h)]; rfl
    · simp at h
/-- The text of bytes is read as these bytes. -/
theorem enc_shape (l : List UInt8) : ∃ t p, encL l = padT t ∧ t.all b64B = true ∧ bits6 t = bits8 l ++ List.replicate p false ∧ p < 6 ∧ 6 * t.length = 8 * l.length + p := by
  obtain ⟨p, hp, hb, hall⟩ := bits6_encB (bits8 l)
  refine ⟨encB (grp 6 (bits8 l)), p, rfl, hall, hb, hp, ?_⟩
  have := congrArg List.length hb
  rw [bits6_len, List.length_append, bits8_len, List.length_replicate] at this
  exact this
theorem datN_pad {t : Str} (ht : t.all b64B = true) (h4 : t.length % 4 ≠ 1) : datN (padT t) = t.length ∧ (padT t).length % 4 = 0 ∧ (padT t).take t.length = t := by
  have hne : ∀ k, k < t.length → t.getD k 0 ≠ 61 := fun k hk e => by have := getD_all ht hk; rw [e, b64_pad] at this; cases this
  unfold padT
  have hlen : (t ++ List.replicate ((4 - t.length % 4) % 4) 61).length = t.length + (4 - t.length % 4) % 4 := by simp
  refine ⟨?_, by rw [hlen]; omega, List.take_left⟩
  unfold datN
  rw [hlen]
  have cases4 : t.length % 4 = 0 ∨ t.length % 4 = 2 ∨ t.length % 4 = 3 := by omega
  rcases cases4 with c | c | c
  · have e0 : (4 - t.length % 4) % 4 = 0 := by omega
    rw [e0, Nat.add_zero, List.replicate_zero, List.append_nil]
    by_cases h0 : t.length = 0
    · rw [if_pos (.inl h0)]
    · rw [if_pos (.inr (.inr (hne _ (by omega))))]
  · have e0 : (4 - t.length % 4) % 4 = 2 := by omega
    rw [e0]
    have g1 : (t ++ List.replicate 2 61).getD (t.length + 2 - 1) 0 = 61 := by rw [getD_app_r (by omega), show t.length + 2 - 1 - t.length = 1 by omega]; rfl
    have g2 : (t ++ List.replicate 2 61).getD (t.length + 2 - 2) 0 = 61 := by rw [getD_app_r (by omega), show t.length + 2 - 2 - t.length = 0 by omega]; rfl
    rw [if_neg (by rw [g1]; rintro (h | h | h) <;> first | omega | exact h rfl), if_pos g2]; omega
  · have e0 : (4 - t.length % 4) % 4 = 1 := by omega
    rw [e0]
    have g1 : (t ++ List.replicate 1 61).getD (t.length + 1 - 1) 0 = 61 := by rw [getD_app_r (by omega), show t.length + 1 - 1 - t.length = 0 by omega]; rfl
    have g2 : (t ++ List.replicate 1 61).getD (t.length + 1 - 2) 0 ≠ 61 := by rw [getD_app_l (by omega)]; exact hne _ (by omega)
    rw [if_neg (by rw [g1]; rintro (h | h | h) <;> first | omega | exact h rfl), if_neg g2]; omega
theorem dec_enc (l : List UInt8) (hl : l.length ≤ 1000) : decE (encL l) = 0 ∧ decB (encL l) = l := by
  obtain ⟨t, p, he, hall, hb, hp, hlen⟩ := enc_shape l
  obtain ⟨d1, d2, d3⟩ := datN_pad hall (by omega)
  have hr : decR (encL l) = (l.map UInt8.toNat, List.replicate p false) := by
    unfold decR
    rw [he, d1, d3, hb, bits8_eq, grp_flat (by decide)]
    · intro v hv; obtain ⟨b, _, rfl⟩ := List.mem_map.1 hv; exact b.toNat_lt
    · simp; omega
  have hsz : (padT t).length ≤ 174764 := by unfold padT; simp; omega
  refine ⟨?_, ?_⟩
  · unfold decE badB64
    rw [hr, he, d1, d3, takeWhile_app_all hall, if_neg (by omega), if_neg (by omega), if_neg (by omega), if_neg (by simp [valB_repl])]
  · unfold decB
    rw [hr]
    show (l.map UInt8.toNat).map UInt8.ofNat = l
    rw [List.map_map]
    conv => rhs; rw [← List.map_id l]
    apply List.map_congr_left
    intro b _; exact UInt8.ofNat_toNat
theorem datN_spec (s : Str) : datN s ≤ s.length ∧ s.length ≤ datN s + 2 ∧ s = s.take (datN s) ++ List.replicate (s.length - datN s) 61 := by
  unfold datN
  by_cases h : s.length = 0 ∨ s.length % 4 ≠ 0 ∨ s.getD (s.length - 1) 0 ≠ 61
  · rw [if_pos h]
    refine ⟨Nat.le_refl _, by omega, ?_⟩
    rw [Nat.sub_self, List.take_length]; simp
  · rw [if_neg h]
    have h0 : s.length ≠ 0 := fun e => h (.inl e)
    have h4 : s.length % 4 = 0 := Decidable.byContradiction fun e => h (.inr (.inl e))
    have h1 : s.getD (s.length - 1) 0 = 61 := Decidable.byContradiction fun e => h (.inr (.inr e))
    have e1 : ∀ k, k < s.length → s.drop k = s.getD k 0 :: s.drop (k + 1) := fun k hk => by rw [List.drop_eq_getElem_cons hk, List.getD_eq_getElem?_getD, List.getElem?_eq_getElem hk]; rfl
    have d1 : s.drop (s.length - 1) = [61] := by rw [e1 _ (by omega), h1, show s.length - 1 + 1 = s.length by omega, List.drop_length]
    by_cases h2 : s.getD (s.length - 2) 0 = 61
    · rw [if_pos h2]
      refine ⟨by omega, by omega, ?_⟩
      have d2 : s.drop (s.length - 2) = [61, 61] := by rw [e1 _ (by omega), h2, show s.length - 2 + 1 = s.length - 1 by omega, d1]
      rw [show s.length - (s.length - 2) = 2 by omega]
      conv => lhs; rw [← List.take_append_drop (s.length - 2) s, d2]
      rfl
    · rw [if_neg h2]
      refine ⟨by omega, by omega, ?_⟩
      rw [show s.length - (s.length - 1) = 1 by omega]
      conv => lhs; rw [← List.take_append_drop (s.length - 1) s, d1]
      rfl
theorem datN_div {s : Str} (h : s.length % 4 ≠ 0) : datN s = s.length := by
  unfold datN; rw [if_pos (.inr (.inl h))]
theorem bits6_vals (t : Str) (h : t.all b64B = true) : bits6 t = (t.map fun c => (b64V c).toNat).flatMap (bitsK 6) ∧ (t.map fun c => (b64V c).toNat).map b64C = t ∧ ∀ v ∈ t.map (fun c => (b64V c).toNat), v < 2 ^ 6 := by
  refine ⟨by unfold bits6; rw [List.flatMap_map], ?_, ?_⟩
  · rw [List.map_map]
    conv => rhs; rw [← List.map_id t]
    apply List.map_congr_left
    intro c hc; exact (b64_back c (List.all_eq_true.1 h c hc)).1
  · intro v hv
    obtain ⟨c, hc, rfl⟩ := List.mem_map.1 hv
    exact (b64_back c (List.all_eq_true.1 h c hc)).2
/-- Characters whose last r bits are zeros are the text of the bits ahead of these. -/
theorem encB_back {t : Str} (h : t.all b64B = true) {X : List Bool} {r : Nat} (hr : r < 6) (hX : bits6 t = X ++ List.replicate r false) : encB (grp 6 X) = t := by
  rcases Nat.eq_zero_or_pos r with rfl | hpos
  · obtain ⟨h1, h2, h3⟩ := bits6_vals t h
    rw [List.replicate_zero, List.append_nil] at hX
    have := grp_flat (k := 6) (by decide) (t.map fun c => (b64V c).toNat) [] h3 (by decide)
    rw [List.append_nil] at this
    rw [← hX, h1, this]
    unfold encB; rw [h2, if_pos rfl, List.append_nil]
  · rcases List.eq_nil_or_concat t with rfl | ⟨t', c, rfl⟩
    · have := congrArg List.length hX
      simp [bits6] at this; omega
    · rw [List.concat_eq_append] at *
      rw [List.all_append, Bool.and_eq_true] at h
      obtain ⟨h1, h2, h3⟩ := bits6_vals t' h.1
      have hc : b64B c = true := by simpa using h.2
      obtain ⟨c1, c2⟩ := b64_back c hc
      have e0 : bits6 (t' ++ [c]) = bits6 t' ++ bitsK 6 (b64V c).toNat := by unfold bits6; rw [List.flatMap_append]; simp
      have hlen := bitsK_len 6 (b64V c).toNat
      have hXl : X.length + r = (bits6 t').length + 6 := by
        have := congrArg List.length hX
        rw [e0, List.length_append, List.length_append, hlen, List.length_replicate] at this
        omega
      have eX : X = bits6 t' ++ (bitsK 6 (b64V c).toNat).take (6 - r) := by
        have := congrArg (List.take X.length) hX
        rw [List.take_left, e0, List.take_append, List.take_of_length_le (by omega), show X.length - (bits6 t').length = 6 - r by omega] at this
        exact this.symm
      have eZ : (bitsK 6 (b64V c).toNat).drop (6 - r) = List.replicate r false := by
        have := congrArg (List.drop X.length) hX
        rw [List.drop_left, e0, List.drop_append, List.drop_of_length_le (by omega), List.nil_append, show X.length - (bits6 t').length = 6 - r by omega] at this
        exact this
      have hval : valB ((bitsK 6 (b64V c).toNat).take (6 - r)) * 2 ^ r = (b64V c).toNat := by
        have e1 := valB_bitsK 6 (b64V c).toNat c2
        rw [← List.take_append_drop (6 - r) (bitsK 6 (b64V c).toNat), eZ, valB_app, valB_repl, List.length_replicate, Nat.add_zero] at e1
        exact e1
      have hk : ((bitsK 6 (b64V c).toNat).take (6 - r)).length = 6 - r := by rw [List.length_take]; omega
      have hne : (bitsK 6 (b64V c).toNat).take (6 - r) ≠ [] := by intro e; rw [e] at hk; simp at hk; omega
      rw [eX, h1, grp_flat (by decide) _ _ h3 (by omega)]
      unfold encB
      simp only
      rw [h2, if_neg hne, hk, show 6 - (6 - r) = r by omega, hval, c1]
/-- What is read without an error is the text of its bytes. -/
theorem enc_dec {s : Str} (h : decE s = 0) : encL (decB s) = s := by
  have hsz : ¬ 174764 < s.length := fun c => by unfold decE at h; rw [if_pos c] at h; cases h
  have hbad : ¬ badB64 s < datN s := fun c => by unfold decE at h; rw [if_neg hsz, if_pos c] at h; cases h
  have h4 : ¬ s.length % 4 ≠ 0 := fun c => by unfold decE at h; rw [if_neg hsz, if_neg hbad, if_pos c] at h; cases h
  have hz : ¬ valB (decR s).2 ≠ 0 := fun c => by unfold decE at h; rw [if_neg hsz, if_neg hbad, if_neg h4, if_pos c] at h; cases h
  obtain ⟨n1, n2, n3⟩ := datN_spec s
  have htl : (s.take (datN s)).length = datN s := by rw [List.length_take]; omega
  have hall : (s.take (datN s)).all b64B = true := all_of_takeWhile (by unfold badB64 at hbad; omega)
  obtain ⟨g1, g2⟩ := grp_back (k := 8) (by decide) (bits6 (s.take (datN s))).length (bits6 (s.take (datN s))) (Nat.le_refl _)
  have g3 := grp_left (k := 8) (by decide) (bits6 (s.take (datN s))).length (bits6 (s.take (datN s))) (Nat.le_refl _)
  have g4 := grp_len (k := 8) (by decide) (bits6 (s.take (datN s)))
  have hz' : valB (grp 8 (bits6 (s.take (datN s)))).2 = 0 := Decidable.not_not.1 hz
  have e8 : bits8 (decB s) = (grp 8 (bits6 (s.take (datN s)))).1.flatMap (bitsK 8) := by
    rw [bits8_eq]; unfold decB decR
    rw [List.map_map]
    congr 1
    conv => rhs; rw [← List.map_id (grp 8 (bits6 (s.take (datN s)))).1]
    apply List.map_congr_left
    intro v hv
    have := g2 v hv
    show (UInt8.ofNat v).toNat = v
    rw [UInt8.toNat_ofNat']; omega
  rw [bits6_len, htl] at g4
  have hr6 : (grp 8 (bits6 (s.take (datN s)))).2.length < 6 := by
    have : datN s % 4 = 0 ∨ datN s % 4 = 2 ∨ datN s % 4 = 3 := by omega
    omega
  have hb : encB (grp 6 (bits8 (decB s))) = s.take (datN s) := by
    refine encB_back hall hr6 ?_
    rw [e8]
    conv => lhs; rw [← g1]
    rw [← valB_zero _ hz']
  unfold encL padT
  rw [hb, htl]
  conv => rhs; rw [n3]
  congr 2
  omega
end Go.Proofs.YteknmbijodbfoaaGreatDoor

namespace Go.Proofs.YteknmbijodbfoaaGreatDoor
open Go.RowKit

/-! ### texts of authors -/
/-- The first byte that is no digit. -/
def badAt (s : Str) : Nat := (s.takeWhile hexB).length
def autErr (s : Str) : Int × Int :=
  if badAt s < min s.length 32 then (badAt s, 6) else if s.length < 32 then (s.length, 4) else if 32 < s.length then (32, 5) else (0, 0)
def autOf (s : Str) : Aut := if (autErr s).2 = 0 then vecOf 16 (unhex s) else zAut

/-! ### checks -/
def kindName (k : Int) : Str :=
  if k = 1 then [99, 97, 110, 99, 101, 108] else if k = 2 then [97, 112, 112, 114, 111, 118, 101] else if k = 3 then [100, 101, 102, 105, 110, 101]
  else if k = 4 then [114, 101, 109, 111, 118, 101] else if k = 5 then [114, 101, 107, 101, 121] else []
/-- The command without the fields of its kind. -/
def strip (c : Cm) : Cm :=
  if c.kind = 1 then { c with target := zId } else if c.kind = 2 then { c with target := zId, group := ⟨#[]⟩ }
  else if c.kind = 3 then { c with group := ⟨#[]⟩, version := 0, moderated := false, mods := [], text := ⟨#[]⟩ }
  else if c.kind = 4 then { c with group := ⟨#[]⟩, version := 0 } else if c.kind = 5 then { c with number := 0, height := 0, root := zAut } else c
def foreign (c : Cm) : Bool := !decide (strip c = cm0 c.kind)
/-- Strictly increasing. -/
def incA : List Aut → Bool
  | [] => true
  | [_] => true
  | a :: b :: l => decide (Lib.compareBytes a.toList b.toList < 0) && incA (b :: l)
def modsErr (l : List Aut) : Int := if l.length = 0 then 1 else if 8 < l.length then 9 else if incA l = false then 30 else 0
def modeErr (c : Cm) : Int := if c.moderated = false then (if 0 < c.mods.length then 3 else 0) else modsErr c.mods
def textErr (s : Str) : Int :=
  if 200 < s.length then 5 else if (s.any fun c => decide (c < 32) || decide (126 < c)) = true then 6 else if s.head? = some 32 ∨ s.getLast? = some 32 then 3 else 0
def heightErr (h : Int) : Int := if h < 1 ∨ 8 < h then 2 else 0
def cmErr (c : Cm) : Int :=
  if kindName c.kind = [] then 11 else if foreign c = true then 3 else if (c.kind = 1 ∨ c.kind = 2) ∧ c.target = zId then 1
  else if (c.kind = 2 ∨ c.kind = 3 ∨ c.kind = 4) ∧ nameErr c.group ≠ 0 then 12
  else if (c.kind = 3 ∨ c.kind = 4) ∧ (c.version < 0 ∨ 1000000 < c.version) then 2
  else if c.kind = 5 then (if c.number < 1 ∨ 1000 < c.number then 2 else heightErr c.height)
  else if c.kind = 3 then (if modeErr c ≠ 0 then modeErr c else textErr (bl c.text)) else 0

/-! ### words, one after the other -/
structure PS where
  start : Nat
  fin : Nat
  rest : List Str
  at_ : Nat
  e : Int
def PS.fail (p : PS) (a : Nat) (e : Int) : PS := if p.e = 0 ∧ e ≠ 0 then { p with at_ := a, e := e } else p
/-- The word that is read next; where there is none, that is the first error. -/
def PS.next (n : Nat) (p : PS) : PS × Str × Bool :=
  if p.e ≠ 0 then (p, [], false) else match p.rest with
  | [] => ({ p with at_ := n, e := 4 }, [], false)
  | w :: rest => ({ p with start := p.fin + 1, fin := p.fin + 1 + w.length, rest := rest }, w, true)
/-- What lies behind the words that were read. -/
def tails (l : List Str) : Str := l.flatMap fun w => 32 :: w
def PSok (s : Str) (p : PS) : Prop := p.fin ≤ s.length ∧ s.drop p.fin = tails p.rest ∧ ∀ w ∈ p.rest, 32 ∉ w
theorem tails_cons (w : Str) (l : List Str) : tails (w :: l) = 32 :: (w ++ tails l) := by simp [tails]
theorem PSok.cut {s : Str} {p : PS} {w : Str} {rest : List Str} (h : PSok s p) (hr : p.rest = w :: rest) : (Lib.cut (s.drop (p.fin + 1)) [32]).1 = w ∧ PSok s { p with start := p.fin + 1, fin := p.fin + 1 + w.length, rest := rest } ∧ p.fin + 1 ≤ s.length := by
  obtain ⟨h1, h2, h3⟩ := h
  rw [hr, tails_cons] at h2
  rw [hr] at h3
  have hw : 32 ∉ w := h3 w (by simp)
  have hd : s.drop (p.fin + 1) = w ++ tails rest := by rw [← List.drop_drop, h2]; rfl
  have hlen : p.fin + 1 + w.length + (tails rest).length = s.length := by
    have := congrArg List.length h2
    simp only [List.length_drop, List.length_cons, List.length_append] at this
    omega
  refine ⟨?_, ⟨by show p.fin + 1 + w.length ≤ s.length; omega, ?_, fun x hx => h3 x (by simp [hx])⟩, by omega⟩
  · rw [hd]
    cases rest with
    | nil => rw [show tails [] = [] from rfl, List.append_nil, cut_miss hw]
    | cons x l => rw [tails_cons, cut_hit _ hw]
  · show s.drop (p.fin + 1 + w.length) = tails rest
    rw [← List.drop_drop, hd, List.drop_left]
theorem PSok.end_ {s : Str} {p : PS} (h : PSok s p) : p.rest = [] ↔ p.fin = s.length := by
  obtain ⟨h1, h2, _⟩ := h
  constructor
  · intro e
    rw [e, show tails [] = [] from rfl] at h2
    have := congrArg List.length h2; simp at this; omega
  · intro e
    rw [e, List.drop_length] at h2
    cases hr : p.rest with
    | nil => rfl
    | cons w l => rw [hr, tails_cons] at h2; cases h2
end Go.Proofs.YteknmbijodbfoaaGreatDoor

namespace Go.Proofs.YteknmbijodbfoaaGreatDoor
open Go.RowKit

/-! ### message identifiers -/
def midTail : Str := [64, 104, 97, 115, 104, 62]
def midT (i : Id) : Str := 60 :: (hexT i.toList ++ midTail)
def midB (w : Str) : Bool := decide (w.length = 71) && w.headD 0 == 60 && ((w.drop 1).take 64).all hexB && w.drop 65 == midTail
def midV (w : Str) : Id := if midB w = true then vecOf 32 (unhex ((w.drop 1).take 64)) else zId

/-! ### errors of words -/
def openT : Str := [111, 112, 101, 110]
def modT : Str := [109, 111, 100, 101, 114, 97, 116, 101, 100]
def targetE (w : Str) : Int := if midB w = false then 3 else if midV w = zId then 1 else 0
def groupE (w : Str) : Int := if nameErr (bs w) ≠ 0 then 12 else 0
def numE (lo hi : Int) (w : Str) : Int := if numB w = false then 3 else if (numL w : Int) < lo ∨ hi < (numL w : Int) then 2 else 0
def numV (w : Str) : Int := if numB w = true then (numL w : Int) else 0
def autsV (w : Str) : List Aut := (splitL 44 w).map autOf
def autsE (w : Str) : Int := if ((splitL 44 w).any fun x => decide ((autErr x).2 ≠ 0)) = true then 3 else if 8 < (splitL 44 w).length then 9 else if incA (autsV w) = false then 30 else 0
def restE (t : Str) : Int := if t = [] then 4 else textErr t

/-! ### what reads a word -/
section
variable (n : Nat)
def PS.targetP (p : PS) : PS × Id := if (p.next n).2.2 = true then ((p.next n).1.fail (p.next n).1.start (targetE (p.next n).2.1), midV (p.next n).2.1) else ((p.next n).1, zId)
def PS.groupP (p : PS) : PS × Str := if (p.next n).2.2 = true then ((p.next n).1.fail (p.next n).1.start (groupE (p.next n).2.1), (p.next n).2.1) else ((p.next n).1, [])
def PS.numP (lo hi : Int) (p : PS) : PS × Int := if (p.next n).2.2 = true then ((p.next n).1.fail (p.next n).1.start (numE lo hi (p.next n).2.1), numV (p.next n).2.1) else ((p.next n).1, 0)
def PS.autsP (p : PS) : PS × Bool × List Aut := if (p.next n).2.2 = true then ((p.next n).1.fail (p.next n).1.start (autsE (p.next n).2.1), true, autsV (p.next n).2.1) else ((p.next n).1, true, [])
def PS.modeP (p : PS) : PS × Bool × List Aut :=
  if (p.next n).2.2 = false ∨ (p.next n).2.1 = openT then ((p.next n).1, false, [])
  else if (p.next n).2.1 ≠ modT then ((p.next n).1.fail (p.next n).1.start 3, false, []) else (p.next n).1.autsP n
end
def PS.restP (s : Str) (p : PS) : PS × Str :=
  if p.e ≠ 0 ∨ p.rest = [] then (p, []) else (({ p with start := p.fin + 1, fin := s.length, rest := [] } : PS).fail (p.fin + 1) (restE (s.drop (p.fin + 1))), s.drop (p.fin + 1))

theorem PSok.fail {s : Str} {p : PS} (h : PSok s p) (a : Nat) (e : Int) : PSok s (p.fail a e) := by
  unfold PS.fail; split
  · exact h
  · exact h
theorem PSok.next {s : Str} {p : PS} (h : PSok s p) (n : Nat) : PSok s (p.next n).1 := by
  unfold PS.next; split
  · exact h
  · split
    · exact h
    · rename_i hr; exact (h.cut hr).2.1
theorem PSok.target {s : Str} {p : PS} (h : PSok s p) (n : Nat) : PSok s (p.targetP n).1 := by
  unfold PS.targetP; split
  · exact (h.next n).fail _ _
  · exact h.next n
theorem PSok.group {s : Str} {p : PS} (h : PSok s p) (n : Nat) : PSok s (p.groupP n).1 := by
  unfold PS.groupP; split
  · exact (h.next n).fail _ _
  · exact h.next n
theorem PSok.num {s : Str} {p : PS} (h : PSok s p) (n : Nat) (lo hi : Int) : PSok s (p.numP n lo hi).1 := by
  unfold PS.numP; split
  · exact (h.next n).fail _ _
  · exact h.next n
theorem PSok.auts {s : Str} {p : PS} (h : PSok s p) (n : Nat) : PSok s (p.autsP n).1 := by
  unfold PS.autsP; split
  · exact (h.next n).fail _ _
  · exact h.next n
theorem PSok.mode {s : Str} {p : PS} (h : PSok s p) (n : Nat) : PSok s (p.modeP n).1 := by
  unfold PS.modeP; split
  · exact h.next n
  · split
    · exact (h.next n).fail _ _
    · exact (h.next n).auts n
theorem PSok.rest {s : Str} {p : PS} (h : PSok s p) : PSok s (p.restP s).1 := by
  unfold PS.restP; split
  · exact h
  · exact PSok.fail ⟨Nat.le_refl _, by rw [List.drop_length]; rfl, fun _ hw => by cases hw⟩ _ _
theorem PSok.start {s w : Str} {ws : List Str} (h : splitL 32 s = w :: ws) : PSok s ⟨0, w.length, ws, 0, 0⟩ := by
  have hj := join_split 32 s
  rw [h] at hj
  have gen : ∀ (l : List Str) (a : Str), Lib.join (a :: l) [32] = a ++ tails l := by
    intro l
    induction l with
    | nil => intro a; rw [Lib.join_one, show tails [] = [] from rfl, List.append_nil]
    | cons b l ih => intro a; rw [join_cons2, ih b, tails_cons]; simp
  rw [gen] at hj
  refine ⟨by rw [← hj]; simp, by rw [← hj]; simp, fun x hx => split_clean (by rw [h]; exact List.mem_cons_of_mem _ hx)⟩
end Go.Proofs.YteknmbijodbfoaaGreatDoor

namespace Go.Proofs.YteknmbijodbfoaaGreatDoor
open Go.RowKit

@[go_sem] theorem aggCm : aggB Tryz.prog 177 = true := by kernel_rfl
@[go_sem] theorem aggPub : aggB Tryz.prog 31 = true := by kernel_rfl
@[go_sem] theorem aggA16 : aggB Tryz.prog 29 = true := by kernel_rfl
@[go_sem] theorem aggA32 : aggB Tryz.prog 26 = true := by kernel_rfl
@[go_sem] theorem cellsCm : Tryz.prog.cellsOf 177 = 56 := by kernel_rfl
@[go_sem] theorem cellsPub : Tryz.prog.cellsOf 31 = 17 := by kernel_rfl
@[go_sem] theorem cellsA16 : Tryz.prog.cellsOf 29 = 16 := by kernel_rfl
@[go_sem] theorem cellsA32 : Tryz.prog.cellsOf 26 = 32 := by kernel_rfl
@[go_sem] theorem eqA16 (x y : Aut) (w : World) : Sem.run Tryz.prog (Op.equalIn 10000 29 (.agg (bC x).toArray) (.agg (bC y).toArray)) w = .ok (x == y) w := run_equalIn_bytes w 9998 Tryz.underlying29 Tryz.underlying5 cellsByte x y
@[go_sem] theorem eqA32 (x y : Id) (w : World) : Sem.run Tryz.prog (Op.equalIn 10000 26 (.agg (bC x).toArray) (.agg (bC y).toArray)) w = .ok (x == y) w := run_equalIn_bytes w 9998 Tryz.underlying26 Tryz.underlying5 cellsByte x y
@[go_sem] theorem guardA16 : Tryz.prog.eqGuardType Tryz.prog.depth 29 = false := by kernel_rfl
@[go_sem] theorem guardA32 : Tryz.prog.eqGuardType Tryz.prog.depth 26 = false := by kernel_rfl
@[go_sem] theorem guardPub : Tryz.prog.eqGuardType Tryz.prog.depth 31 = false := by kernel_rfl

/-! ### equality of public keys -/
theorem partRow {P : Program} (w : World) {t : TypeId} (h : aggB P t = true) (cs : List Value) (k : Nat) : (part t cs.toArray k).run P w = .ok (.agg (rowOf cs k (P.cellsOf t)).toArray) w := by
  simp [part, Sem.run_bind, run_isAgg h, run_sizeOf' h, rowOf]
theorem partH (h : Int) (r : Aut) (w : World) : (part 3 (pubC h r).toArray 0).run Tryz.prog w = .ok (.int .i64 h) w := by
  have e : (pubC h r)[0]? = some (.int .i64 h) := rfl
  simp [part, isAgg, run_underlying Tryz.underlying3, e]
theorem partR (h : Int) (r : Aut) (w : World) : (part 29 (pubC h r).toArray 1).run Tryz.prog w = .ok (.agg (bC r).toArray) w := by
  rw [partRow w aggA16, cellsA16, pub_root]
theorem eqStep {P : Program} {w : World} {d : Nat} {xs ys : Array Value} {f : Field} {fs : List Field} {a b : Value} {r s : Bool} (hn : f.name ≠ "_") (ha : (part f.type xs f.offset).run P w = .ok a w) (hb : (part f.type ys f.offset).run P w = .ok b w) (hr : (Op.equalIn d f.type a b).run P w = .ok r w) (hs : (Op.eqFields d xs ys fs).run P w = .ok s w) :
    (Op.eqFields d xs ys (f :: fs)).run P w = .ok (r && s) w := by
  rw [Op.eqFields, if_pos hn]
  simp only [Sem.run_bind, ha, hb, hr, Result.andThen_ok]
  cases r
  · rfl
  · exact hs
theorem eq9A16 (a b : Aut) (w : World) : Sem.run Tryz.prog (Op.equalIn 9999 29 (.agg (bC a).toArray) (.agg (bC b).toArray)) w = .ok (a == b) w := run_equalIn_bytes w 9997 Tryz.underlying29 Tryz.underlying5 cellsByte a b
theorem eq9I (a b : Int) (w : World) : Sem.run Tryz.prog (Op.equalIn 9999 3 (.int .i64 a) (.int .i64 b)) w = .ok (a == b) w := run_equalIn_int w 9998 _ _ _ a b Tryz.underlying3
def pubEq (h : Int) (r : Aut) (h' : Int) (r' : Aut) : Bool := h == h' && r == r'
theorem eqF_pub (h : Int) (r : Aut) (h' : Int) (r' : Aut) (w : World) : (Op.eqFields 9999 (pubC h r).toArray (pubC h' r').toArray (Tryz.prog.fieldsOf 31).toList).run Tryz.prog w = .ok (h == h' && (r == r' && true)) w := by
  simp only [Program.fieldsOf, Tryz.underlying31]
  refine eqStep (by decide) (partH h r w) (partH h' r' w) (eq9I _ _ w) ?_
  exact eqStep (by decide) (partR h r w) (partR h' r' w) (eq9A16 _ _ w) rfl
theorem eqS_pub (h : Int) (r : Aut) (h' : Int) (r' : Aut) (w : World) : Sem.run Tryz.prog (Op.equalIn 10000 31 (.agg (pubC h r).toArray) (.agg (pubC h' r').toArray)) w = (Op.eqFields 9999 (pubC h r).toArray (pubC h' r').toArray (Tryz.prog.fieldsOf 31).toList).run Tryz.prog w := run_equalIn_struct w 9999 31 _ _ (by kernel_rfl) (by kernel_rfl)
@[go_sem ↓ high] theorem eqPub (h : Int) (r : Aut) (h' : Int) (r' : Aut) (w : World) : Sem.run Tryz.prog (Op.equalIn 10000 31 (.agg (pubC h r).toArray) (.agg (pubC h' r').toArray)) w = .ok (pubEq h r h' r') w :=
  (eqS_pub h r h' r' w).trans ((eqF_pub h r h' r' w).trans (by rw [Bool.and_true]; rfl))
attribute [go_sem] cm_kind' cm_group' cm_version' cm_moderated' cm_mods' cm_text' cm_number' cm_height' cmC_length pubC_length cm_target cm_pub cm_root cm_whole pub_root
end Go.Proofs.YteknmbijodbfoaaGreatDoor

namespace Go.Proofs.YteknmbijodbfoaaGreatDoor
open Go.RowKit

/-! ### message identifiers -/
theorem midT_len (i : Id) : (midT i).length = 71 := by
  unfold midT; rw [List.length_cons, List.length_append, hexT_len]; simp [midTail]
theorem midT_digits (i : Id) : ((midT i).drop 1).take 64 = hexT i.toList := by
  unfold midT
  rw [List.drop_succ_cons, List.drop_zero, List.take_left' (by rw [hexT_len]; simp)]
theorem midT_tail (i : Id) : (midT i).drop 65 = midTail := by
  unfold midT
  rw [List.drop_succ_cons, List.drop_left' (by rw [hexT_len]; simp)]
theorem midB_midT (i : Id) : midB (midT i) = true := by
  unfold midB
  rw [midT_len, midT_digits, midT_tail, hexT_hex]; rfl
theorem midV_midT (i : Id) : midV (midT i) = i := by
  unfold midV
  rw [if_pos (midB_midT i), midT_digits, unhex_hexT, vecOf_self]
theorem midB_iff {w : Str} (h : midB w = true) : w.length = 71 ∧ w = 60 :: (((w.drop 1).take 64) ++ midTail) ∧ ((w.drop 1).take 64).all hexB = true := by
  simp only [midB, Bool.and_eq_true, decide_eq_true_eq, beq_iff_eq] at h
  obtain ⟨⟨⟨h1, h2⟩, h3⟩, h4⟩ := h
  refine ⟨h1, ?_, h3⟩
  cases w with
  | nil => simp at h1
  | cons a l =>
    have ha : a = 60 := h2
    rw [ha, List.drop_succ_cons, List.drop_zero]
    rw [List.drop_succ_cons] at h4
    rw [← h4, List.take_append_drop]
theorem midT_midV {w : Str} (h : midB w = true) : midT (midV w) = w := by
  obtain ⟨h1, h2, h3⟩ := midB_iff h
  have hl : ((w.drop 1).take 64).length = 2 * 32 := by rw [List.length_take, List.length_drop]; omega
  unfold midV midT
  rw [if_pos h, vecOf_toList (unhex_len 32 _ hl), hexT_unhex 32 _ hl h3]
  exact h2.symm

/-! ### authors -/
theorem takeWhile_all {p : UInt8 → Bool} : ∀ {s : Str}, s.all p = true → s.takeWhile p = s
  | [], _ => rfl
  | c :: s, h => by
    simp only [List.all_cons, Bool.and_eq_true] at h
    rw [List.takeWhile_cons, if_pos h.1, takeWhile_all h.2]
theorem takeWhile_le (p : UInt8 → Bool) : ∀ s : Str, (s.takeWhile p).length ≤ s.length
  | [] => Nat.le_refl _
  | c :: s => by
    rw [List.takeWhile_cons]
    split
    · have := takeWhile_le p s; simp; omega
    · simp
theorem all_takeWhile {p : UInt8 → Bool} : ∀ {s : Str}, s.length ≤ (s.takeWhile p).length → s.all p = true
  | [], _ => rfl
  | c :: s, h => by
    rw [List.takeWhile_cons] at h
    split at h
    · rename_i hc
      rw [List.all_cons, hc, all_takeWhile (by simpa using h)]; rfl
    · simp at h
theorem autErr_zero {s : Str} : (autErr s).2 = 0 ↔ s.length = 32 ∧ s.all hexB = true := by
  unfold autErr
  have hle := takeWhile_le hexB s
  constructor
  · intro h
    by_cases h1 : badAt s < min s.length 32
    · rw [if_pos h1] at h; cases h
    · rw [if_neg h1] at h
      by_cases h2 : s.length < 32
      · rw [if_pos h2] at h; cases h
      · rw [if_neg h2] at h
        by_cases h3 : 32 < s.length
        · rw [if_pos h3] at h; cases h
        · exact ⟨by omega, all_takeWhile (by unfold badAt at h1; omega)⟩
  · rintro ⟨h1, h2⟩
    have : badAt s = 32 := by unfold badAt; rw [takeWhile_all h2, h1]
    rw [if_neg (by omega), if_neg (by omega), if_neg (by omega)]
def autT (a : Aut) : Str := hexT a.toList
theorem autT_len (a : Aut) : (autT a).length = 32 := by unfold autT; rw [hexT_len]; simp
theorem autErr_autT (a : Aut) : (autErr (autT a)).2 = 0 := autErr_zero.2 ⟨autT_len a, hexT_hex _⟩
theorem autErr_autT' (a : Aut) : autErr (autT a) = (0, 0) := by
  have h := autErr_zero.1 (autErr_autT a)
  have : badAt (autT a) = 32 := by unfold badAt; rw [takeWhile_all h.2, h.1]
  unfold autErr
  rw [if_neg (by omega), if_neg (by omega), if_neg (by omega)]
theorem autOf_autT (a : Aut) : autOf (autT a) = a := by
  unfold autOf
  rw [if_pos (autErr_autT a)]; unfold autT; rw [unhex_hexT, vecOf_self]
theorem autT_autOf {s : Str} (h : (autErr s).2 = 0) : autT (autOf s) = s := by
  obtain ⟨h1, h2⟩ := autErr_zero.1 h
  unfold autOf autT
  rw [if_pos h, vecOf_toList (unhex_len 16 s (by omega)), hexT_unhex 16 s (by omega) h2]
end Go.Proofs.YteknmbijodbfoaaGreatDoor

namespace Go.Proofs.YteknmbijodbfoaaGreatDoor
open Go.RowKit

/-- A build, as one word. -/
def bdR (P : Program) (t : TypeId) (ps : Array (Nat × Value)) (w : World) : Result Next := (do pure (Next.value (← Instr.build t ps)) : Sem Next).run P w
@[go_sem ↓] theorem exec_build {P : Program} {t : TypeId} (ρ : Operand → Value) (d : Option Tmp) (ps : Array (Nat × Operand)) (ty : TypeId) (p : String) (af : Array Edge) (g : Option (Nat × Bool)) (w : World) :
    Sem.run P (execOp ρ ⟨d, .build t ps, ty, p, af, g⟩) w = bdR P t (ps.map fun x => (x.1, ρ x.2)) w := rfl
theorem bd_of {P : Program} {t : TypeId} {ps : Array (Nat × Value)} {v : Value} {w w' : World} (h : (Instr.build t ps).run P w = .ok v w') : bdR P t ps w = .ok (.value v) w' := by simp [bdR, h]
/-- Bytes, one by one. -/
def byF {n : Nat} (x : Vector UInt8 n) (k : Nat) : Value := .int .u8 ((x.toList.getD k 0).toNat : Int)
theorem bC_exp {n : Nat} (x : Vector UInt8 n) : bC x = (List.range n).map (byF x) := by
  apply List.ext_getElem?
  intro i
  rw [List.getElem?_map]
  by_cases hi : i < n
  · rw [List.getElem?_range hi, List.getElem?_eq_getElem (by rw [bC_length]; exact hi)]
    simp [bC, byF, hi]
  · rw [List.getElem?_eq_none (by rw [bC_length]; omega), List.getElem?_eq_none (by simp; omega)]; rfl
def nilV : Value := .slice none 0 0
/-- A command's cells, its target's bytes one by one. -/
def rawC (k : Int) (f : Nat → Value) (g : ByteArray) (v : Int) (m : Bool) (s : Value) (t : ByteArray) (nu : Int) (pub : List Value) : List Value :=
  [Value.int .i64 k] ++ ((List.range 32).map f ++ ([Value.string g, .int .i64 v, .bool m, s, .string t, .int .i64 nu] ++ pub))

theorem b0Id (w : World) : (Instr.build 39 #[]).run Tryz.prog w = .ok (.agg (bC zId).toArray) w := by kernel_rfl
theorem b0Aut (w : World) : (Instr.build 35 #[]).run Tryz.prog w = .ok (.agg (bC zAut).toArray) w := by kernel_rfl
theorem b0A16 (w : World) : (Instr.build 29 #[]).run Tryz.prog w = .ok (.agg (bC zAut).toArray) w := by kernel_rfl
theorem b0A32 (w : World) : (Instr.build 26 #[]).run Tryz.prog w = .ok (.agg (bC zId).toArray) w := by kernel_rfl
theorem b0Pub (w : World) : (Instr.build 31 #[]).run Tryz.prog w = .ok (.agg (pubC 0 zAut).toArray) w := by kernel_rfl
theorem b0Cm (w : World) : (Instr.build 177 #[]).run Tryz.prog w = .ok (.agg (cmC (cm0 0) nilV).toArray) w := by kernel_rfl
theorem b1Cm (k : Int) (w : World) : (Instr.build 177 #[(0, .int .i64 k)]).run Tryz.prog w = .ok (.agg (cmC (cm0 k) nilV).toArray) w := by kernel_rfl
theorem bPubF (h : Int) (f : Nat → Value) (w : World) : (Instr.build 31 #[(0, .int .i64 h), (1, .agg ((List.range 16).map f).toArray)]).run Tryz.prog w = .ok (.agg (Value.int .i64 h :: (List.range 16).map f).toArray) w := by kernel_rfl
theorem bCmTF (k : Int) (f : Nat → Value) (w : World) : (Instr.build 177 #[(0, .int .i64 k), (1, .agg ((List.range 32).map f).toArray)]).run Tryz.prog w = .ok (.agg (rawC k f ⟨#[]⟩ 0 false nilV ⟨#[]⟩ 0 (pubC 0 zAut)).toArray) w := by kernel_rfl
theorem bCmF (k : Int) (f : Nat → Value) (g : ByteArray) (v : Int) (m : Bool) (a : Option Addr) (n c : Nat) (t : ByteArray) (nu ht : Int) (h : Nat → Value) (w : World) :
    (Instr.build 177 #[(0, .int .i64 k), (1, .agg ((List.range 32).map f).toArray), (2, .string g), (3, .int .i64 v), (4, .bool m), (5, .slice a n c), (6, .string t), (7, .int .i64 nu), (8, .agg (Value.int .i64 ht :: (List.range 16).map h).toArray)]).run Tryz.prog w =
      .ok (.agg (rawC k f g v m (.slice a n c) t nu (.int .i64 ht :: (List.range 16).map h)).toArray) w := by kernel_rfl
theorem bWdsF (s : ByteArray) (n : Int) (w : World) : (Instr.build 217 #[(0, .string s), (2, .int .i64 n)]).run Tryz.prog w = .ok (.agg #[.string s, .int .i64 0, .int .i64 n, .int .i64 0, .int .i64 0]) w := by kernel_rfl
theorem bKnownF (g t : ByteArray) (w : World) : (Instr.build 177 #[(0, .int .i64 3), (2, .string g), (3, .int .i64 2), (6, .string t)]).run Tryz.prog w = .ok (.agg (cmC ⟨3, zId, g, 2, false, [], t, 0, 0, zAut⟩ nilV).toArray) w := by kernel_rfl

@[go_sem] theorem k0Id (w : World) : bdR Tryz.prog 39 #[] w = .ok (.value (.agg (bC zId).toArray)) w := bd_of (b0Id w)
@[go_sem] theorem k0Aut (w : World) : bdR Tryz.prog 35 #[] w = .ok (.value (.agg (bC zAut).toArray)) w := bd_of (b0Aut w)
@[go_sem] theorem k0A16 (w : World) : bdR Tryz.prog 29 #[] w = .ok (.value (.agg (bC zAut).toArray)) w := bd_of (b0A16 w)
@[go_sem] theorem k0A32 (w : World) : bdR Tryz.prog 26 #[] w = .ok (.value (.agg (bC zId).toArray)) w := bd_of (b0A32 w)
@[go_sem] theorem k0Pub (w : World) : bdR Tryz.prog 31 #[] w = .ok (.value (.agg (pubC 0 zAut).toArray)) w := bd_of (b0Pub w)
@[go_sem] theorem k0Cm (w : World) : bdR Tryz.prog 177 #[] w = .ok (.value (.agg (cmC (cm0 0) nilV).toArray)) w := bd_of (b0Cm w)
@[go_sem] theorem k1Cm (k : Int) (w : World) : bdR Tryz.prog 177 #[(0, .int .i64 k)] w = .ok (.value (.agg (cmC (cm0 k) nilV).toArray)) w := bd_of (b1Cm k w)
@[go_sem] theorem kPub (h : Int) (r : Aut) (w : World) : bdR Tryz.prog 31 #[(0, .int .i64 h), (1, .agg (bC r).toArray)] w = .ok (.value (.agg (pubC h r).toArray)) w := bd_of (by rw [pubC, bC_exp]; exact bPubF h _ w)
@[go_sem] theorem kCmT (k : Int) (i : Id) (w : World) : bdR Tryz.prog 177 #[(0, .int .i64 k), (1, .agg (bC i).toArray)] w = .ok (.value (.agg (cmC { cm0 k with target := i } nilV).toArray)) w := bd_of (by
  have e : cmC { cm0 k with target := i } nilV = rawC k (byF i) ⟨#[]⟩ 0 false nilV ⟨#[]⟩ 0 (pubC 0 zAut) := by unfold rawC; rw [← bC_exp]; rfl
  rw [e, bC_exp]; exact bCmTF k _ w)
@[go_sem] theorem kCm (k : Int) (i : Id) (g : ByteArray) (v : Int) (m : Bool) (a : Option Addr) (n c : Nat) (t : ByteArray) (nu ht : Int) (r : Aut) (w : World) :
    bdR Tryz.prog 177 #[(0, .int .i64 k), (1, .agg (bC i).toArray), (2, .string g), (3, .int .i64 v), (4, .bool m), (5, .slice a n c), (6, .string t), (7, .int .i64 nu), (8, .agg (pubC ht r).toArray)] w = .ok (.value (.agg (cmC ⟨k, i, g, v, m, [], t, nu, ht, r⟩ (.slice a n c)).toArray)) w := bd_of (by
  have e : cmC ⟨k, i, g, v, m, [], t, nu, ht, r⟩ (.slice a n c) = rawC k (byF i) g v m (.slice a n c) t nu (.int .i64 ht :: (List.range 16).map (byF r)) := by unfold rawC; rw [← bC_exp, ← bC_exp]; rfl
  rw [e, pubC, bC_exp, bC_exp]; exact bCmF k _ g v m a n c t nu ht _ w)
@[go_sem] theorem kWds (s : ByteArray) (n : Int) (w : World) : bdR Tryz.prog 217 #[(0, .string s), (2, .int .i64 n)] w = .ok (.value (.agg #[.string s, .int .i64 0, .int .i64 n, .int .i64 0, .int .i64 0])) w := bd_of (bWdsF s n w)
@[go_sem] theorem kKnown (g t : ByteArray) (w : World) : bdR Tryz.prog 177 #[(0, .int .i64 3), (2, .string g), (3, .int .i64 2), (6, .string t)] w = .ok (.value (.agg (cmC ⟨3, zId, g, 2, false, [], t, 0, 0, zAut⟩ nilV).toArray)) w := bd_of (bKnownF g t w)

/-- A region that draws, all of it quiet in the class of worlds with blocks. -/
theorem wp_region_gr {P : Program} {id : Nat} {Q : Exit → Act → World → Prop} {a : Act} {w : World} {l : List Oper} (hm : P.follows .mixedOrders = true) (hB : Region.lexB .any l.toArray = true)
    (h : wpQuiet P l.toArray (fun u => ∃ p : GD, u = gw w p) (fun a' => ∀ w', (∃ p : GD, w' = gw w p) → Q .normal a' w') l a) : (Code.region id l.toArray true).wp P Q a w :=
  wp_region_quiet (C := fun u => ∃ p : GD, u = gw w p) hm hB (cg_drew w) (by simpa using h)
end Go.Proofs.YteknmbijodbfoaaGreatDoor

namespace Go.Proofs.YteknmbijodbfoaaGreatDoor
open Go.RowKit

def kindS (k : Int) : ByteArray := bs (kindName k)
set_option maxHeartbeats 1000000 in
theorem kindNameC (k : Int) (w : World) : Calls Tryz.prog 146 #[.int .i64 k] w fun e w' => e = .returned (.string (kindS k)) ∧ w = w' := by
  go_enter Tryz.func146, Tryz.ntmps146
  go_wp2
  all_goals
    go_ret
    refine ⟨?_, rfl⟩
    simp_all [kindS, kindName, bs]
set_option maxHeartbeats 1000000 in
theorem checkHeightC (h : Int) (w : World) : Calls Tryz.prog 22 #[.int .i64 h] w fun e w' => e = .returned (.int .i64 (heightErr h)) ∧ w = w' := by
  go_enter Tryz.func22, Tryz.ntmps22
  go_wp2
  all_goals
    go_ret
    refine ⟨ret_int ?_, rfl⟩
    unfold heightErr
    split <;> first | rfl | omega
set_option maxRecDepth 100000 in
set_option maxHeartbeats 1000000 in
theorem isZeroC (i : Id) (w : World) : Calls Tryz.prog 80 #[.agg (bC i).toArray] w fun e w' => e = .returned (.bool (i == zId)) ∧ Gr w w' := by
  go_enter Tryz.func80, Tryz.ntmps80
  go_wp2
  go_ret
  exact ⟨rfl, (Gr.refl w).alloc _⟩
set_option maxRecDepth 100000 in
set_option maxHeartbeats 1000000 in
theorem pubCheckC (h : Int) (r : Aut) (w : World) : Calls Tryz.prog 14 #[.agg (pubC h r).toArray] w fun e w' => e = .returned (.int .i64 (heightErr h)) ∧ Gr w w' := by
  go_enter Tryz.func14, Tryz.ntmps14
  go_wp2_with (go_at_call 22; refine (checkHeightC _ _).mono ?_; rintro e w' ⟨rfl, rfl⟩)
  go_ret
  exact ⟨rfl, (Gr.refl w).alloc _⟩
end Go.Proofs.YteknmbijodbfoaaGreatDoor

namespace Go.Proofs.YteknmbijodbfoaaGreatDoor
open Go.RowKit

/-- What is read of a command that lies in a block. -/
theorem cm_facts {W : World} {b : Nat} {c : Cm} {v : Value} {t : TypeId} (h : W.heap[b]? = some (.cells (cmC c v).toArray t (0, 0))) :
    W.cell? ⟨b, 0, none⟩ = some (.int .i64 c.kind) ∧ W.cell? ⟨b, 33, none⟩ = some (.string c.group) ∧ W.cell? ⟨b, 34, none⟩ = some (.int .i64 c.version) ∧ W.cell? ⟨b, 35, none⟩ = some (.bool c.moderated) ∧ W.cell? ⟨b, 36, none⟩ = some v ∧
    W.cell? ⟨b, 37, none⟩ = some (.string c.text) ∧ W.cell? ⟨b, 38, none⟩ = some (.int .i64 c.number) ∧ W.cell? ⟨b, 39, none⟩ = some (.int .i64 c.height) ∧ hasRow W ⟨b, 1, none⟩ 32 = true ∧ rowAt W ⟨b, 1, none⟩ 32 = bC c.target ∧ hasRow W ⟨b, 39, none⟩ 17 = true ∧ rowAt W ⟨b, 39, none⟩ 17 = pubC c.height c.root ∧
    hasRow W ⟨b, 40, none⟩ 16 = true ∧ rowAt W ⟨b, 40, none⟩ 16 = bC c.root ∧ hasRow W ⟨b, 0, none⟩ 56 = true ∧ rowAt W ⟨b, 0, none⟩ 56 = cmC c v ∧ b < W.heap.size :=
  ⟨(cell_block h 0).trans (cm_kind c v), (cell_block h 33).trans (cm_group c v), (cell_block h 34).trans (cm_version c v), (cell_block h 35).trans (cm_moderated c v), (cell_block h 36).trans (cm_mods c v), (cell_block h 37).trans (cm_text c v), (cell_block h 38).trans (cm_number c v), (cell_block h 39).trans (cm_height c v),
    hasRow_block h 1 32 (by rw [cmC_length]; decide), (rowAt_block h 1 32 (by rw [cmC_length]; decide)).trans (cm_target c v), hasRow_block h 39 17 (by rw [cmC_length]; decide), (rowAt_block h 39 17 (by rw [cmC_length]; decide)).trans (cm_pub c v),
    hasRow_block h 40 16 (by rw [cmC_length]; decide), (rowAt_block h 40 16 (by rw [cmC_length]; decide)).trans (cm_root c v), hasRow_block h 0 56 (by rw [cmC_length]; decide), (rowAt_block h 0 56 (by rw [cmC_length]; decide)).trans (cm_whole c v), (Array.getElem?_eq_some_iff.1 h).1⟩

/-! ### slices.Equal at authors -/
theorem takeEq_succ {α : Type} {a b : List α} {k : Nat} (ha : k < a.length) (hb : k < b.length) (h : a.take k = b.take k) (e : a[k] = b[k]) : a.take (k + 1) = b.take (k + 1) := by
  rw [List.take_succ_eq_append_getElem ha, List.take_succ_eq_append_getElem hb, h, e]
/-! ### increasing -/
theorem incA_snoc : ∀ (l : List Aut) (a b : Aut), incA (l ++ [a, b]) = (incA (l ++ [a]) && decide (Lib.compareBytes a.toList b.toList < 0))
  | [], a, b => by simp [incA]
  | [x], a, b => by simp [incA]
  | x :: y :: l, a, b => by
    have := incA_snoc (y :: l) a b
    simp only [List.cons_append] at this ⊢
    rw [incA, this, incA, Bool.and_assoc]
theorem incA_app : ∀ (a b : List Aut), incA (a ++ b) = true → incA a = true
  | [], _, _ => rfl
  | [_], _, _ => rfl
  | x :: y :: a, b, h => by
    simp only [List.cons_append, incA, Bool.and_eq_true] at h ⊢
    exact ⟨h.1, incA_app (y :: a) b h.2⟩
theorem incA_succ (l : List Aut) (k : Nat) (h1 : 1 ≤ k) (h2 : k < l.length) : incA (l.take (k + 1)) = (incA (l.take k) && decide (Lib.compareBytes l[k - 1].toList l[k].toList < 0)) := by
  obtain ⟨j, rfl⟩ := Nat.exists_eq_add_of_le' h1
  have e2 : l.take (j + 1 + 1) = l.take j ++ [l[j], l[j + 1]] := by
    rw [List.take_succ_eq_append_getElem h2, List.take_succ_eq_append_getElem (by omega : j < l.length), List.append_assoc]; rfl
  have e1 : l.take (j + 1) = l.take j ++ [l[j]] := List.take_succ_eq_append_getElem (by omega)
  rw [e2, e1, incA_snoc]; rfl
theorem incA_stop (l : List Aut) (k : Nat) (h : incA (l.take k) = false) : incA l = false := by
  cases hl : incA l with
  | false => rfl
  | true => rw [← List.take_append_drop k l] at hl; rw [incA_app _ _ hl] at h; cases h
theorem bytesAt_row {w : World} {b k : Nat} {n : Nat} {x : Vector UInt8 n} (h1 : hasRow w ⟨b, k, none⟩ n = true) (h2 : rowAt w ⟨b, k, none⟩ n = bC x) : BytesAt w b k x.toList := by
  intro j hj
  have hj' : j < n := by simpa using hj
  have e := congrArg (fun l => l[j]?) h2
  simp only [rowAt, List.getElem?_map, List.getElem?_range hj', Option.map_some, Addr.add_lit] at e
  obtain ⟨v, hv⟩ := Option.isSome_iff_exists.1 (hasRow_iff.1 h1 j hj')
  rw [Addr.add_lit] at hv
  rw [hv] at e ⊢
  simp only [Option.getD_some] at e
  rw [e]
  simp [bC, hj']
set_option maxRecDepth 100000 in
set_option maxHeartbeats 2000000 in
theorem incC (l : List Aut) (v : Value) (w : World) (hv : AutsAt w v l) (hl : l.length ≤ 1000000) :
    Calls Tryz.prog 181 #[v] w fun e w' => e = .returned (.bool (incA l)) ∧ Gr w w' := by
  obtain ⟨a, cap, rfl, hc, hj⟩ := hv
  have e1 : (l.map bC).length = l.length := by simp
  rw [e1] at hc ⊢
  have HJ := Lib.hid hj
  clear hj e1
  go_enter Tryz.func181, Tryz.ntmps181
  go_wp2_with fail
  go_loopw [3, 4, 5, 6, 7, 8, 9, 10, 11, 12, 13, 14, 15, 16, 17, 18, 19, 20] (fun i _ _ _ _ _ _ _ _ _ _ _ _ _ _ _ _ _ wr => ∃ k : Nat, k ≤ l.length ∧ i = .int .i64 ((k : Int) + 1) ∧ Hid (incA (l.take (k + 1)) = true) ∧ ∃ q, wr = w.drewN q) (fun i _ _ _ _ _ _ _ _ _ _ _ _ _ _ _ _ _ _ => l.length + 1 - (intOf i).toNat)
  case atStart => exact ⟨0, Nat.zero_le _, rfl, by cases l <;> rfl, 0, rfl⟩
  case round =>
    obtain ⟨k, hk, rfl, hh, q, rfl⟩ := hrel
    by_cases hlt : k + 1 < l.length
    · have hlt0 : k < l.length := by omega
      obtain ⟨b1, o1, hb1, z1, r1, r2⟩ := HJ.out k (by simpa using hlt0)
      obtain ⟨b2, o2, hb2, z2, r3, r4⟩ := HJ.out (k + 1) (by simpa using hlt)
      subst hb1
      injection hb2 with hb2
      injection hb2 with q1 q2
      subst q1; subst q2
      rw [List.getElem_map] at r2 r4
      have HS : Hid (incA (l.take (k + 1 + 1)) = (incA (l.take (k + 1)) && decide (Lib.compareBytes l[k].toList l[k + 1].toList < 0))) := incA_succ l (k + 1) (by omega) hlt
      have HST : Hid (incA (l.take (k + 1 + 1)) = false → incA l = false) := incA_stop l (k + 1 + 1)
      have HC := Lib.hid (fun n => bytesCompare b1 (o1 + k * 16) 16 b1 (o1 + (k + 1) * 16) 16 l[k].toList l[k + 1].toList ((w.drewN q).drewN n) (bytesAt_row (x := l[k]) r1 r2) (bytesAt_row (x := l[k + 1]) r3 r4))
      simp only [toList_len] at HC
      have hk1 : (k : Int) + 1 < (l.length : Int) := by omega
      have hk2 : (0 : Int) ≤ (k : Int) + 1 := by omega
      have hk3 : (k : Int) < (l.length : Int) := by omega
      have hk4 : (0 : Int) ≤ (k : Int) := by omega
      have hw : IntKind.i64.wrap (k : Int) = (k : Int) := by rw [IntKind.wrap_i64]; omega
      clear r1 r2 r3 r4
      generalize hU : w.drewN q = U at *
      have HU := Lib.hid hU
      clear hU
      cases hx : decide (0 ≤ Lib.compareBytes l[k].toList l[k + 1].toList) with
      | true =>
        have HX : Hid (incA l = false) := HST.out (by rw [HS.out]; simp at hx; simp; omega)
        clear HS HST
        generalize Lib.compareBytes l[k].toList l[k + 1].toList = r at *
        go_wp2_with fail
        go_quiet ((go_at_call 138; exact still_call (HC.out _)))
        go_wp2_with fail
        go_ret
        exact ⟨ret_bool HX.out.symm, by rw [← HU.out]; exact ((Gr.refl w).drewN _).drewN _⟩
      | false =>
        have HX : Hid (incA (l.take (k + 1 + 1)) = true) := by show _ = _; rw [HS.out, hh.out]; simp at hx; simp; omega
        clear HS HST
        generalize Lib.compareBytes l[k].toList l[k + 1].toList = r at *
        go_wp2_with fail
        go_quiet ((go_at_call 138; exact still_call (HC.out _)))
        go_wp2_with fail
        go_roundw
        case rel => exact ⟨k + 1, by omega, by go_num, HX.out, _, by rw [← HU.out, World.drewN_drewN]⟩
        case measure => simp [intOf]; omega
    · have hk1 : ¬ (k : Int) + 1 < (l.length : Int) := by omega
      go_wp2_with fail
      go_ret
      refine ⟨ret_bool ?_, (Gr.refl w).drewN _⟩
      have := hh.out
      rw [List.take_of_length_le (by omega)] at this
      exact this.symm
end Go.Proofs.YteknmbijodbfoaaGreatDoor

namespace Go.Proofs.YteknmbijodbfoaaGreatDoor
open Go.RowKit

theorem str_beq {s t : ByteArray} : (s.toList == t.toList) = true ↔ s = t := by
  rw [beq_iff_eq, bl_toList, bl_toList]
  exact ⟨bl_inj, fun h => by rw [h]⟩
theorem cm_eq_iff (a b : Cm) : a = b ↔ ((a.kind == b.kind) = true ∧ (a.target == b.target) = true ∧ (a.group.toList == b.group.toList) = true ∧ (a.version == b.version) = true ∧ (a.moderated == b.moderated) = true ∧ decide (a.mods = b.mods) = true ∧ (a.text.toList == b.text.toList) = true ∧ (a.number == b.number) = true ∧ pubEq a.height a.root b.height b.root = true) := by
  constructor
  · rintro rfl
    simp [pubEq]
  · rintro ⟨h1, h2, h3, h4, h5, h6, h7, h8, h9⟩
    rw [str_beq] at h3 h7
    simp only [beq_iff_eq, decide_eq_true_eq, pubEq, Bool.and_eq_true] at h1 h2 h4 h5 h6 h8 h9
    cases a; cases b
    simp only at h1 h2 h3 h4 h5 h6 h7 h8 h9
    simp only [h1, h2, h3, h4, h5, h6, h7, h8, h9.1, h9.2]
end Go.Proofs.YteknmbijodbfoaaGreatDoor

namespace Go.Proofs.YteknmbijodbfoaaGreatDoor
open Go.RowKit

def badT (s : Str) : Bool := s.any fun c => decide (c < 32) || decide (126 < c)
theorem badT_succ (s : ByteArray) (k : Nat) (h : k < s.size) : badT ((bl s).take (k + 1)) = (badT ((bl s).take k) || (decide ((s[k].toNat : Int) < 32) || decide (126 < (s[k].toNat : Int)))) := by
  have hl : k < (bl s).length := by rw [bl_length]; exact h
  have e : (bl s)[k] = s[k] := rfl
  unfold badT
  rw [List.take_succ_eq_append_getElem hl, List.any_append, e]
  congr 1
  rw [Bool.eq_iff_iff]
  simp [UInt8.lt_iff_toNat_lt]
  omega
theorem badT_stop (s : Str) (k : Nat) (h : badT (s.take k) = true) : badT s = true := by
  unfold badT at *
  rw [List.any_eq_true] at *
  obtain ⟨c, hc, hp⟩ := h
  exact ⟨c, List.mem_of_mem_take hc, hp⟩
theorem pre32 (s : Str) : Lib.hasPrefix s [32] = true ↔ s.head? = some 32 := by
  cases s with
  | nil => exact ⟨fun h => (by cases h), fun h => (by cases h)⟩
  | cons c s =>
    show (([32] : Str).isPrefixOf (c :: s)) = true ↔ some c = some 32
    rw [List.isPrefixOf, List.isPrefixOf, Bool.and_true, beq_iff_eq, Option.some.injEq]
    exact eq_comm
theorem suf32 (s : Str) : Lib.hasSuffix s [32] = true ↔ s.getLast? = some 32 := by
  unfold Lib.hasSuffix
  rw [List.isSuffixOf_iff_suffix]
  constructor
  · rintro ⟨t, rfl⟩; exact List.getLast?_concat
  · intro h
    rcases List.eq_nil_or_concat s with rfl | ⟨t, c, rfl⟩
    · simp at h
    · rw [List.concat_eq_append] at *
      rw [List.getLast?_concat] at h
      rw [Option.some.inj h]; exact ⟨t, rfl⟩
set_option maxRecDepth 100000 in
set_option maxHeartbeats 2000000 in
theorem textC (s : ByteArray) (w : World) (hs : s.size ≤ 9223372036854775807) : Calls Tryz.prog 182 #[.string s] w fun e w' => e = .returned (.int .i64 (textErr (bl s))) ∧ w = w' := by
  have hsz := bl_length s
  by_cases h1 : 200 < s.size
  · have hf : Hid (textErr (bl s) = 5) := by show _ = _; unfold textErr; rw [hsz, if_pos h1]
    go_enter Tryz.func182, Tryz.ntmps182
    go_wp2_with fail
    go_ret
    exact ⟨ret_int hf.out.symm, rfl⟩
  · have hf : Hid (textErr (bl s) = if badT (bl s) = true then 6 else if (bl s).head? = some 32 ∨ (bl s).getLast? = some 32 then 3 else 0) := by show _ = _; unfold textErr; rw [hsz, if_neg h1]; rfl
    have HSZ := Lib.hid hsz
    have HP := Lib.hid (Tryz.strings_HasPrefix s ⟨#[32]⟩ w)
    have HX := Lib.hid (Tryz.strings_HasSuffix s ⟨#[32]⟩ w hs)
    have EP : Hid (Lib.hasPrefix s.data.toList [32] = true ↔ (bl s).head? = some 32) := pre32 _
    have EX : Hid (Lib.hasSuffix s.data.toList [32] = true ↔ (bl s).getLast? = some 32) := suf32 _
    have e32 : (⟨#[32]⟩ : ByteArray).data.toList = [32] := rfl
    rw [e32] at HP HX
    clear hsz e32
    go_enter Tryz.func182, Tryz.ntmps182
    go_wp2_with fail
    go_loop [3, 9, 10, 11, 12, 13, 14, 15, 16, 17, 18, 19, 20, 21, 22] (fun _ i _ _ _ _ _ _ _ _ _ _ _ _ _ => ∃ k : Nat, k ≤ s.size ∧ i = .int .i64 k ∧ Hid (badT ((bl s).take k) = false)) (fun _ i _ _ _ _ _ _ _ _ _ _ _ _ _ => s.size - (intOf i).toNat)
    case atStart => exact ⟨0, Nat.zero_le _, rfl, rfl⟩
    case round =>
      obtain ⟨k, hk, rfl, hh⟩ := hrel
      by_cases hlt : k < s.size
      · have HS := Lib.hid (badT_succ s k hlt)
        have HST : Hid (badT ((bl s).take (k + 1)) = true → badT (bl s) = true) := badT_stop _ _
        have hk1 : (k : Int) < (s.size : Int) := by omega
        have hk2 : (0 : Int) ≤ (k : Int) := by omega
        generalize hc : (s[k].toNat : Int) = c at *
        cases hx : decide (c < 32) with
        | true =>
          have HF : Hid (badT (bl s) = true) := HST.out (by rw [HS.out, hx]; simp)
          go_wp2_with fail
          go_ret
          exact ⟨ret_int (by rw [hf.out, if_pos HF.out]), rfl⟩
        | false =>
          cases hy : decide (126 < c) with
          | true =>
            have HF : Hid (badT (bl s) = true) := HST.out (by rw [HS.out, hy]; simp)
            go_wp2_with fail
            go_ret
            exact ⟨ret_int (by rw [hf.out, if_pos HF.out]), rfl⟩
          | false =>
            have HF : Hid (badT ((bl s).take (k + 1)) = false) := by show _ = _; rw [HS.out, hx, hy, hh.out]; rfl
            go_wp2_with fail
            go_round
            case rel => exact ⟨k + 1, by omega, by go_num, HF.out⟩
            case measure => simp [intOf]; omega
      · have hk1 : ¬ (k : Int) < (s.size : Int) := by omega
        have HF : Hid (badT (bl s) = false) := by
          have := hh.out
          rw [List.take_of_length_le (by rw [HSZ.out]; omega)] at this
          exact this
        clear HSZ
        cases hp : Lib.hasPrefix s.data.toList [32] with
        | true =>
          rw [hp] at HP
          have HE : Hid ((bl s).head? = some 32) := EP.out.1 hp
          go_wp2_with (go_at_call 116; refine HP.out.mono ?_; rintro e w' ⟨rfl, rfl⟩)
          go_ret
          exact ⟨ret_int (by rw [hf.out, HF.out, if_neg (by decide), if_pos (.inl HE.out)]), rfl⟩
        | false =>
          rw [hp] at HP
          have HE : Hid (¬ (bl s).head? = some 32) := fun h => by have := EP.out.2 h; rw [hp] at this; cases this
          cases hq : Lib.hasSuffix s.data.toList [32] with
          | true =>
            rw [hq] at HX
            have HE2 : Hid ((bl s).getLast? = some 32) := EX.out.1 hq
            go_wp2_with (first | (go_at_call 116; refine HP.out.mono ?_; rintro e w' ⟨rfl, rfl⟩) | (go_at_call 117; refine HX.out.mono ?_; rintro e w' ⟨rfl, rfl⟩))
            go_ret
            exact ⟨ret_int (by rw [hf.out, HF.out, if_neg (by decide), if_pos (.inr HE2.out)]), rfl⟩
          | false =>
            rw [hq] at HX
            have HE2 : Hid (¬ (bl s).getLast? = some 32) := fun h => by have := EX.out.2 h; rw [hq] at this; cases this
            go_wp2_with (first | (go_at_call 116; refine HP.out.mono ?_; rintro e w' ⟨rfl, rfl⟩) | (go_at_call 117; refine HX.out.mono ?_; rintro e w' ⟨rfl, rfl⟩))
            go_ret
            exact ⟨ret_int (by rw [hf.out, HF.out, if_neg (by decide), if_neg (by rintro (h | h); exact HE.out h; exact HE2.out h)]), rfl⟩

/-! ### checkMode -/
end Go.Proofs.YteknmbijodbfoaaGreatDoor

namespace Go.Proofs.YteknmbijodbfoaaGreatDoor
open Go.RowKit

theorem setCells_mid (w : World) (t : TypeId) (b : Nat) (hb : b = w.heap.size) (post : List Value) : ∀ (l pre mid : List Value), mid.length = l.length →
    (w.alloc (.cells (pre ++ (mid ++ post)).toArray t)).setCells b pre.length l = w.alloc (.cells (pre ++ (l ++ post)).toArray t)
  | [], pre, mid, h => by obtain rfl : mid = [] := List.length_eq_zero_iff.1 h; rfl
  | v :: l, pre, mid, h => by
    obtain ⟨p, mid', rfl⟩ : ∃ p q, mid = p :: q := by cases mid with | nil => simp at h | cons p q => exact ⟨p, q, rfl⟩
    show (World.setCells ((w.alloc _).setCell ⟨b, pre.length, none⟩ v) b (pre.length + 1) l) = _
    rw [World.setCell_alloc_at _ _ _ _ _ hb]
    have e : (pre ++ (p :: mid' ++ post)).toArray.setIfInBounds pre.length v = ((pre ++ [v]) ++ (mid' ++ post)).toArray := by simp
    rw [e]
    have := setCells_mid w t b hb post l (pre ++ [v]) mid' (by simpa using h)
    simp only [List.length_append, List.length_cons, List.length_nil, Nat.zero_add, List.append_assoc, List.cons_append, List.nil_append] at this ⊢
    exact this
section
variable (w : World) (t : TypeId) (b : Nat) (c : Cm) (v : Value)
@[go_sem ↓ high] theorem st_target (i : Id) (hb : b = w.heap.size) : (w.alloc (.cells (cmC c v).toArray t)).setCells b 1 (bC i) = w.alloc (.cells (cmC { c with target := i } v).toArray t) :=
  setCells_mid w t b hb ([Value.string c.group, .int .i64 c.version, .bool c.moderated, v, .string c.text, .int .i64 c.number] ++ pubC c.height c.root) (bC i) [.int .i64 c.kind] (bC c.target) (by rw [bC_length, bC_length])
theorem cm_pre : cmC c v = ([.int .i64 c.kind] ++ (bC c.target ++ [Value.string c.group, .int .i64 c.version, .bool c.moderated, v, .string c.text, .int .i64 c.number])) ++ (pubC c.height c.root ++ []) := by simp [cmC]
@[go_sem ↓ high] theorem st_pub (h : Int) (r : Aut) (hb : b = w.heap.size) : (w.alloc (.cells (cmC c v).toArray t)).setCells b 39 (pubC h r) = w.alloc (.cells (cmC { c with height := h, root := r } v).toArray t) := by
  have e := setCells_mid w t b hb [] (pubC h r) ([.int .i64 c.kind] ++ (bC c.target ++ [Value.string c.group, .int .i64 c.version, .bool c.moderated, v, .string c.text, .int .i64 c.number])) (pubC c.height c.root) (by rw [pubC_length, pubC_length])
  rw [show ([Value.int .i64 c.kind] ++ (bC c.target ++ [Value.string c.group, .int .i64 c.version, .bool c.moderated, v, .string c.text, .int .i64 c.number])).length = 39 by simp [bC_length]] at e
  rw [cm_pre c v, cm_pre { c with height := h, root := r } v]; exact e
theorem cm_set (k : Nat) (x : Value) (h : 33 ≤ k) : (cmC c v).set k x = [.int .i64 c.kind] ++ (bC c.target ++ (([Value.string c.group, .int .i64 c.version, .bool c.moderated, v, .string c.text, .int .i64 c.number] ++ pubC c.height c.root).set (k - 33) x)) := by
  unfold cmC
  rw [List.set_append_right _ _ (by simp; omega), List.set_append_right _ _ (by rw [bC_length]; simp; omega), bC_length]
  rw [show k - [Value.int .i64 c.kind].length - 32 = k - 33 by simp; omega]
theorem st_one (k : Nat) (x : Value) (c' : Cm) (v' : Value) (hb : b = w.heap.size) (h : (cmC c v).set k x = cmC c' v') : (w.alloc (.cells (cmC c v).toArray t)).setCell ⟨b, k, none⟩ x = w.alloc (.cells (cmC c' v').toArray t) := by
  rw [World.setCell_alloc_at _ _ _ _ _ hb, ← h]; simp
@[go_sem ↓ high] theorem st_group (g : ByteArray) (hb : b = w.heap.size) : (w.alloc (.cells (cmC c v).toArray t)).setCell ⟨b, 33, none⟩ (.string g) = w.alloc (.cells (cmC { c with group := g } v).toArray t) := st_one w t b c v 33 _ _ _ hb (by rw [cm_set _ _ _ _ (by decide)]; rfl)
@[go_sem ↓ high] theorem st_version (n : Int) (hb : b = w.heap.size) : (w.alloc (.cells (cmC c v).toArray t)).setCell ⟨b, 34, none⟩ (.int .i64 n) = w.alloc (.cells (cmC { c with version := n } v).toArray t) := st_one w t b c v 34 _ _ _ hb (by rw [cm_set _ _ _ _ (by decide)]; rfl)
@[go_sem ↓ high] theorem st_moderated (m : Bool) (hb : b = w.heap.size) : (w.alloc (.cells (cmC c v).toArray t)).setCell ⟨b, 35, none⟩ (.bool m) = w.alloc (.cells (cmC { c with moderated := m } v).toArray t) := st_one w t b c v 35 _ _ _ hb (by rw [cm_set _ _ _ _ (by decide)]; rfl)
@[go_sem ↓ high] theorem st_mods (a : Option Addr) (n p : Nat) (hb : b = w.heap.size) : (w.alloc (.cells (cmC c v).toArray t)).setCell ⟨b, 36, none⟩ (.slice a n p) = w.alloc (.cells (cmC c (.slice a n p)).toArray t) := st_one w t b c v 36 _ _ _ hb (by rw [cm_set _ _ _ _ (by decide)]; rfl)
@[go_sem ↓ high] theorem st_text (g : ByteArray) (hb : b = w.heap.size) : (w.alloc (.cells (cmC c v).toArray t)).setCell ⟨b, 37, none⟩ (.string g) = w.alloc (.cells (cmC { c with text := g } v).toArray t) := st_one w t b c v 37 _ _ _ hb (by rw [cm_set _ _ _ _ (by decide)]; rfl)
@[go_sem ↓ high] theorem st_number (n : Int) (hb : b = w.heap.size) : (w.alloc (.cells (cmC c v).toArray t)).setCell ⟨b, 38, none⟩ (.int .i64 n) = w.alloc (.cells (cmC { c with number := n } v).toArray t) := st_one w t b c v 38 _ _ _ hb (by rw [cm_set _ _ _ _ (by decide)]; rfl)
end

@[go_sem ↓ high] theorem zeroCm (w : World) : Sem.run Tryz.prog (zeroValue 177) w = .ok (.agg (cmC (cm0 0) nilV).toArray) w := by kernel_rfl
@[go_sem] theorem oneCmN (c : Cm) : oneB (cmC c nilV) = true := cm_one c nilV rfl
@[go_sem] theorem oneCmS (c : Cm) (a : Option Addr) (n k : Nat) : oneB (cmC c (.slice a n k)) = true := cm_one c _ rfl

/-- The slice of moderators that is left when a command is stripped. -/
def stripV (c : Cm) (v : Value) : Value := if c.kind = 3 then nilV else v
theorem nil_auts (w : World) : AutsAt w nilV [] := ⟨none, 0, rfl, Nat.le_refl _, fun j hj => by simp at hj⟩
theorem strip_auts {w : World} {c : Cm} {v : Value} (h : AutsAt w v c.mods) : AutsAt w (stripV c v) (strip c).mods := by
  unfold stripV strip
  by_cases h3 : c.kind = 3
  · rw [if_pos h3, if_neg (by omega), if_neg (by omega), if_pos h3]; exact nil_auts w
  · rw [if_neg h3]
    repeat' split
    all_goals first | exact h | (exfalso; omega)
theorem strip_mods_len (c : Cm) : (strip c).mods.length ≤ c.mods.length := by
  unfold strip
  repeat' split
  all_goals first | exact Nat.le_refl _ | exact Nat.zero_le _
end Go.Proofs.YteknmbijodbfoaaGreatDoor

namespace Go.Proofs.YteknmbijodbfoaaGreatDoor
open Go.RowKit

section
variable (k : Int) (t : Id) (g : ByteArray) (n : Int) (m : Bool) (l : List Aut) (tx : ByteArray) (nu ht : Int) (r : Aut)
theorem strip1 : strip ⟨1, t, g, n, m, l, tx, nu, ht, r⟩ = ⟨1, zId, g, n, m, l, tx, nu, ht, r⟩ := rfl
theorem strip2 : strip ⟨2, t, g, n, m, l, tx, nu, ht, r⟩ = ⟨2, zId, ⟨#[]⟩, n, m, l, tx, nu, ht, r⟩ := rfl
theorem strip3 : strip ⟨3, t, g, n, m, l, tx, nu, ht, r⟩ = ⟨3, t, ⟨#[]⟩, 0, false, [], ⟨#[]⟩, nu, ht, r⟩ := rfl
theorem strip4 : strip ⟨4, t, g, n, m, l, tx, nu, ht, r⟩ = ⟨4, t, ⟨#[]⟩, 0, m, l, tx, nu, ht, r⟩ := rfl
theorem strip5 : strip ⟨5, t, g, n, m, l, tx, nu, ht, r⟩ = ⟨5, t, g, n, m, l, tx, 0, 0, zAut⟩ := rfl
end
end Go.Proofs.YteknmbijodbfoaaGreatDoor

namespace Go.Proofs.YteknmbijodbfoaaGreatDoor
open Go.RowKit

theorem ks1 : kindS 1 = ⟨#[99, 97, 110, 99, 101, 108]⟩ := rfl
theorem ks2 : kindS 2 = ⟨#[97, 112, 112, 114, 111, 118, 101]⟩ := rfl
theorem ks3 : kindS 3 = ⟨#[100, 101, 102, 105, 110, 101]⟩ := rfl
theorem ks4 : kindS 4 = ⟨#[114, 101, 109, 111, 118, 101]⟩ := rfl
theorem ks5 : kindS 5 = ⟨#[114, 101, 107, 101, 121]⟩ := rfl
section
variable (t : Id) (g : ByteArray) (n : Int) (m : Bool) (l : List Aut) (tx : ByteArray) (nu ht : Int) (r : Aut)
theorem err1 (h : foreign ⟨1, t, g, n, m, l, tx, nu, ht, r⟩ = false) : cmErr ⟨1, t, g, n, m, l, tx, nu, ht, r⟩ = if t = zId then 1 else 0 := by
  unfold cmErr; rw [if_neg (show ¬ kindName 1 = [] by decide), if_neg (by rw [h]; decide)]; simp
theorem err2 (h : foreign ⟨2, t, g, n, m, l, tx, nu, ht, r⟩ = false) : cmErr ⟨2, t, g, n, m, l, tx, nu, ht, r⟩ = if t = zId then 1 else if nameErr g ≠ 0 then 12 else 0 := by
  unfold cmErr; rw [if_neg (show ¬ kindName 2 = [] by decide), if_neg (by rw [h]; decide)]; simp
theorem err3 (h : foreign ⟨3, t, g, n, m, l, tx, nu, ht, r⟩ = false) : cmErr ⟨3, t, g, n, m, l, tx, nu, ht, r⟩ = if nameErr g ≠ 0 then 12 else if n < 0 ∨ 1000000 < n then 2 else if modeErr ⟨3, t, g, n, m, l, tx, nu, ht, r⟩ ≠ 0 then modeErr ⟨3, t, g, n, m, l, tx, nu, ht, r⟩ else textErr (bl tx) := by
  unfold cmErr; rw [if_neg (show ¬ kindName 3 = [] by decide), if_neg (by rw [h]; decide)]; simp
theorem err4 (h : foreign ⟨4, t, g, n, m, l, tx, nu, ht, r⟩ = false) : cmErr ⟨4, t, g, n, m, l, tx, nu, ht, r⟩ = if nameErr g ≠ 0 then 12 else if n < 0 ∨ 1000000 < n then 2 else 0 := by
  unfold cmErr; rw [if_neg (show ¬ kindName 4 = [] by decide), if_neg (by rw [h]; decide)]; simp
theorem err5 (h : foreign ⟨5, t, g, n, m, l, tx, nu, ht, r⟩ = false) : cmErr ⟨5, t, g, n, m, l, tx, nu, ht, r⟩ = if nu < 1 ∨ 1000 < nu then 2 else heightErr ht := by
  unfold cmErr; rw [if_neg (show ¬ kindName 5 = [] by decide), if_neg (by rw [h]; decide)]; simp
end
theorem errF {c : Cm} (h1 : 1 ≤ c.kind) (h5 : c.kind ≤ 5) (h : foreign c = true) : cmErr c = 3 := by
  have hk : kindName c.kind ≠ [] := by
    have : c.kind = 1 ∨ c.kind = 2 ∨ c.kind = 3 ∨ c.kind = 4 ∨ c.kind = 5 := by omega
    rcases this with e | e | e | e | e <;> rw [e] <;> decide
  unfold cmErr; rw [if_neg hk, if_pos h]
theorem errK {c : Cm} (h : ¬ (1 ≤ c.kind ∧ c.kind ≤ 5)) : cmErr c = 11 ∧ kindS c.kind = ⟨#[]⟩ := by
  have hk : kindName c.kind = [] := by unfold kindName; rw [if_neg (by omega), if_neg (by omega), if_neg (by omega), if_neg (by omega), if_neg (by omega)]
  exact ⟨by unfold cmErr; rw [if_pos hk], by unfold kindS; rw [hk]; rfl⟩
end Go.Proofs.YteknmbijodbfoaaGreatDoor

namespace Go.Proofs.YteknmbijodbfoaaGreatDoor
open Go.RowKit

def rowsS (l : List ByteArray) : List (List Value) := l.map fun s => [Value.string s]
theorem rowsS_flat (l : List ByteArray) : (rowsS l).flatten = l.map Value.string := by
  induction l with
  | nil => rfl
  | cons s l ih => unfold rowsS at *; rw [List.map_cons, List.flatten_cons, ih]; rfl
theorem rowsS_len (l : List ByteArray) : ∀ r ∈ rowsS l, r.length = 1 := by
  intro r hr; obtain ⟨s, _, rfl⟩ := List.mem_map.1 hr; rfl
theorem rowsS_one (l : List ByteArray) : ∀ r ∈ rowsS l, oneB r = true := by
  intro r hr; obtain ⟨s, _, rfl⟩ := List.mem_map.1 hr; rfl
theorem rowsS_length (l : List ByteArray) : (rowsS l).length = l.length := by unfold rowsS; simp
/-- v is a slice of the strings l, that the call owns. -/
def OwnS (w : World) (base : Nat) (v : Value) (l : List ByteArray) : Prop := w.ownsRow base 9 1 v l.length (l.map Value.string)
theorem OwnS.nil (w : World) (base : Nat) : OwnS w base (.slice none 0 0) [] := ⟨rfl, .inl ⟨rfl, rfl⟩⟩
theorem OwnS.made {w : World} {base b : Nat} {l : List ByteArray} (h : w.heap[b]? = some (.cells (l.map Value.string).toArray 9 (0, 0))) (hb : base ≤ b) (hl : l.length ≤ 1000000) : OwnS w base (.slice (some ⟨b, 0, none⟩) l.length l.length) l :=
  ⟨by simp, .inr ⟨b, l.length, _, rfl, hb, h, Nat.le_refl _, by unfold maxLen; omega, by simp, by rw [Nat.mul_one, List.toList_toArray, List.take_of_length_le (by simp)]⟩⟩
theorem OwnS.gr {w w' : World} {base : Nat} {v : Value} {l : List ByteArray} (h : OwnS w base v l) (hg : Gr w w') : OwnS w' base v l := World.ownsRow.kept h hg.grownBy (by cases v.ownBlock <;> simp)
theorem OwnS.sl {w : World} {base : Nat} {v : Value} {l : List ByteArray} (h : OwnS w base v l) : SlAt w v 1 (rowsS l) :=
  slAt_of_owns (rowsS_len l) (by rw [rowsS_length, rowsS_flat]; exact h)
theorem infoStr0 : (Tryz.prog.info? 9).map (fun i => (i.zero, i.size, i.bytes)) = some (some (.string ⟨#[]⟩), 1, 16) := by kernel_rfl
theorem infoStr : ∃ i z, Tryz.prog.info? 9 = some i ∧ i.zero = some z ∧ i.size = 1 ∧ i.bytes = 16 ∧ z.cells.size = 1 := by
  have h := infoStr0
  cases hi : Tryz.prog.info? 9 with
  | none => rw [hi] at h; cases h
  | some i =>
    rw [hi] at h
    simp only [Option.map_some, Option.some.injEq, Prod.mk.injEq] at h
    exact ⟨i, .string ⟨#[]⟩, rfl, h.1, h.2.1, h.2.2, rfl⟩
theorem wpList_append_str (w : World) {ops : Array Oper} {rest : List Oper} {o : Oper} {a : Act} {Q : Exit → Act → World → Prop} (hgd : o.guard = none) (s x : Operand)
    (ho : o.op = .call { callee := .builtin .append, args := #[s, x], argTypes := #[23, 23] }) (base : Nat) (v : Value) (xs : List ByteArray) (hs : a.eval s = v) (hown : OwnS w base v xs)
    (sv : Value) (ys : List ByteArray) (hx : a.eval x = sv) (hsl : OwnS w base sv ys) (h63 : xs.length + ys.length ≤ 1000000) (hbase : base ≤ w.heap.size)
    (h : ∀ a' c' w', OwnS w' base (.slice a' (xs ++ ys).length c') (xs ++ ys) → w.grownBy w' v.ownBlock → wpList Tryz.prog ops Q rest (a.put o.dst (.slice a' (xs ++ ys).length c')) w') :
    wpList Tryz.prog ops Q (o :: rest) a w := by
  obtain ⟨i, z, h1, h2, h3, h4, h5⟩ := infoStr
  refine wpList_append_sl w hgd s x 23 ho base 9 i z 1 16 Tryz.underlying23 h1 h2 h3 h4 h5 (by decide) v xs.length (xs.map Value.string) hs hown sv (rowsS ys) hx hsl.sl (rowsS_len _) (rowsS_one _) (by rw [rowsS_length]; exact h63) (by decide) hbase ?_
  intro a' c' w' ho' hg _
  rw [rowsS_flat, rowsS_length] at ho'
  rw [rowsS_length]
  have e : xs.length + ys.length = (xs ++ ys).length := by simp
  rw [e]
  refine h a' c' w' ?_ hg
  unfold OwnS
  rw [List.map_append, ← e]; exact ho'
/-- .. as a step of a region that draws its order. -/
theorem step_append_str {ops : Array Oper} {o : Oper} {a : Act} {w : World} {K : Act → World → Prop} {Q : Exit → Act → World → Prop} {E : Prop}
    (hg : o.guard = none) (d : Nat) (hd : o.dst = some d) (s x : Operand) (hop : o.op = Op.call { callee := Callee.builtin Builtin.append, args := #[s, x], argTypes := #[23, 23] })
    (base : Nat) (v : Value) (xs : List ByteArray) (hs : a.eval s = v) (hown : OwnS w base v xs) (sv : Value) (ys : List ByteArray) (hx : a.eval x = sv) (hsl : OwnS w base sv ys) (N : Nat) (hN : xs.length + ys.length = N) (h63 : N ≤ 1000000) (hbase : base ≤ w.heap.size)
    (hK : ∀ a' c' w', OwnS w' base (.slice a' N c') (xs ++ ys) → w.grownBy w' v.ownBlock → K (a.put (some d) (.slice a' N c')) w') :
    if Region.wanted o (yielded ops a.tmps) = true then Oper.wp Tryz.prog o a w K Q else E := by
  subst hN
  have hw : Region.wanted o (yielded ops a.tmps) = true := by simp [Region.wanted, hg]
  rw [if_pos hw]
  obtain ⟨i, z, i1, i2, i3, i4, i5⟩ := infoStr
  obtain ⟨a', c', w', hrun, h2, h3, _⟩ := run_append_sl (P := Tryz.prog) w base 23 o.type 9 i z 1 16 Tryz.underlying23 i1 i2 i3 i4 i5 (by decide) v xs.length (xs.map Value.string) hown sv (rowsS ys) hsl.sl (rowsS_len _) (rowsS_one _) (by rw [rowsS_length]; exact h63) (by decide) hbase
  rw [rowsS_length] at hrun h2
  rw [rowsS_flat] at h2
  unfold Oper.wp
  simp [execOp, hop, resolve, invoke, builtin, hs, hx, hrun, Result.andThen]
  show K (a.put o.dst _) w'
  rw [hd]
  refine hK a' c' w' ?_ h3
  unfold OwnS
  rw [List.map_append, List.length_append]; exact h2
theorem OwnS.cells {w : World} {base : Nat} {v : Value} {l : List ByteArray} (h : OwnS w base v l) (hl : l ≠ []) : ∃ g c, v = .slice (some ⟨g, 0, none⟩) l.length c ∧ l.length ≤ c ∧ g < w.heap.size ∧ ∀ (j : Nat) x, l[j]? = some x → w.cell? ⟨g, 0 + j, none⟩ = some (.string x) := by
  obtain ⟨_, h2⟩ := h
  rcases h2 with ⟨_, h0⟩ | ⟨g, cap, cur, hv, hg, hh, hc, hm, hs, ht⟩
  · exact absurd (List.length_eq_zero_iff.1 h0) hl
  · refine ⟨g, cap, hv, hc, (Array.getElem?_eq_some_iff.1 hh).1, fun j x hj => ?_⟩
    rw [Nat.zero_add, cell_of_row _ _ _ _ _ _ hh]
    have hlt := (List.getElem?_eq_some_iff.1 hj).1
    have := congrArg (fun l => l[j]?) ht
    simp only [List.getElem?_take, Nat.mul_one, if_pos hlt, List.getElem?_map, hj, Option.map_some] at this
    rw [← this, Array.getElem?_toList]
theorem map_bl (l : List ByteArray) : l.map (·.data.toList) = l.map bl := rfl
/-- strings.Join. -/
theorem OwnS.join {w : World} {base : Nat} {v : Value} {l : List ByteArray} (h : OwnS w base v l) (sep : ByteArray) (hlen : (Lib.join (l.map bl) (bl sep)).length ≤ 140737488355328) (hl : l.length ≤ 1000000) :
    Calls Tryz.prog 76 #[v, .string sep] w fun e w' => e = .returned (.string (bs (Lib.join (l.map bl) (bl sep)))) ∧ Gr w w' := by
  by_cases h0 : l = []
  · subst h0
    obtain ⟨_, h2⟩ := h
    obtain ⟨a, c, rfl⟩ : ∃ a c, v = .slice a 0 c := by
      rcases h2 with ⟨rfl, _⟩ | ⟨g, cap, cur, rfl, _⟩
      · exact ⟨_, _, rfl⟩
      · exact ⟨_, _, rfl⟩
    refine (Tryz.strings_Join_none a c sep w).mono ?_
    rintro e w' ⟨rfl, rfl⟩
    exact ⟨rfl, Gr.refl _⟩
  · obtain ⟨g, c, rfl, hc, hg, hcell⟩ := h.cells h0
    exact (Tryz.strings_Join g 0 c l sep w hcell hg (by omega) hc hlen).mono fun _ _ ⟨he, hb⟩ => ⟨he, hb⟩
end Go.Proofs.YteknmbijodbfoaaGreatDoor

/- The grammar of control commands (plain): errors, texts, words, what Print and Parse return. -/
import Derived.Test.YtcdcmohccbhchaaGreatDoorKHex
import Derived.Test.YtcdcmohccbhchaaGreatDoorKNum
import Derived.Test.YtcdcmohccbhchaaGreatDoorName
namespace Go.Proofs.YtcdcmohccbhchaaGreatDoor
open Go.RowKit

/-! ### texts of authors -/
/-- The first byte that is no digit. -/
def badAt (s : Str) : Nat := (s.takeWhile hexB).length
def autErr (s : Str) : Int × Int :=
  if badAt s < min s.length 32 then (badAt s, 6) else if s.length < 32 then (s.length, 4) else if 32 < s.length then (32, 5) else (0, 0)
def autOf (s : Str) : Aut := if (autErr s).2 = 0 then vecOf 16 (unhex s) else zAut

/-! ### checks -/
def kindName (k : Int) : Str :=
  if k = 1 then [99, 97, 110, 99, 101, 108] else if k = 2 then [97, 112, 112, 114, 111, 118, 101] else if k = 3 then [100, 101, 102, 105, 110, 101]
  else if k = 4 then [114, 101, 109, 111, 118, 101] else if k = 5 then [114, 101, 107, 101, 121] else []
/-- The command without the fields of its kind. -/
def strip (c : Cm) : Cm :=
  if c.kind = 1 then { c with target := zId } else if c.kind = 2 then { c with target := zId, group := ⟨#[]⟩ }
  else if c.kind = 3 then { c with group := ⟨#[]⟩, version := 0, moderated := false, mods := [], text := ⟨#[]⟩ }
  else if c.kind = 4 then { c with group := ⟨#[]⟩, version := 0 } else if c.kind = 5 then { c with number := 0, height := 0, root := zAut } else c
def foreign (c : Cm) : Bool := !decide (strip c = cm0 c.kind)
/-- Strictly increasing. -/
def incA : List Aut → Bool
  | [] => true
  | [_] => true
  | a :: b :: l => decide (Lib.compareBytes a.toList b.toList < 0) && incA (b :: l)
def modsErr (l : List Aut) : Int := if l.length = 0 then 1 else if 8 < l.length then 9 else if incA l = false then 30 else 0
def modeErr (c : Cm) : Int := if c.moderated = false then (if 0 < c.mods.length then 3 else 0) else modsErr c.mods
def textErr (s : Str) : Int :=
  if 200 < s.length then 5 else if (s.any fun c => decide (c < 32) || decide (126 < c)) = true then 6 else if s.head? = some 32 ∨ s.getLast? = some 32 then 3 else 0
def heightErr (h : Int) : Int := if h < 1 ∨ 8 < h then 2 else 0
def cmErr (c : Cm) : Int :=
  if kindName c.kind = [] then 11 else if foreign c = true then 3 else if (c.kind = 1 ∨ c.kind = 2) ∧ c.target = zId then 1
  else if (c.kind = 2 ∨ c.kind = 3 ∨ c.kind = 4) ∧ nameErr c.group ≠ 0 then 12
  else if (c.kind = 3 ∨ c.kind = 4) ∧ (c.version < 0 ∨ 1000000 < c.version) then 2
  else if c.kind = 5 then (if c.number < 1 ∨ 1000 < c.number then 2 else heightErr c.height)
  else if c.kind = 3 then (if modeErr c ≠ 0 then modeErr c else textErr (bl c.text)) else 0

/-! ### words, one after the other -/
structure PS where
  start : Nat
  fin : Nat
  rest : List Str
  at_ : Nat
  e : Int
def PS.fail (p : PS) (a : Nat) (e : Int) : PS := if p.e = 0 ∧ e ≠ 0 then { p with at_ := a, e := e } else p
/-- The word that is read next; where there is none, that is the first error. -/
def PS.next (n : Nat) (p : PS) : PS × Str × Bool :=
  if p.e ≠ 0 then (p, [], false) else match p.rest with
  | [] => ({ p with at_ := n, e := 4 }, [], false)
  | w :: rest => ({ p with start := p.fin + 1, fin := p.fin + 1 + w.length, rest := rest }, w, true)
/-- What lies behind the words that were read. -/
def tails (l : List Str) : Str := l.flatMap fun w => 32 :: w
def PSok (s : Str) (p : PS) : Prop := p.fin ≤ s.length ∧ s.drop p.fin = tails p.rest ∧ ∀ w ∈ p.rest, 32 ∉ w
theorem tails_cons (w : Str) (l : List Str) : tails (w :: l) = 32 :: (w ++ tails l) := by simp [tails]
theorem PSok.cut {s : Str} {p : PS} {w : Str} {rest : List Str} (h : PSok s p) (hr : p.rest = w :: rest) : (Lib.cut (s.drop (p.fin + 1)) [32]).1 = w ∧ PSok s { p with start := p.fin + 1, fin := p.fin + 1 + w.length, rest := rest } ∧ p.fin + 1 ≤ s.length := by
  obtain ⟨h1, h2, h3⟩ := h
  rw [hr, tails_cons] at h2
  rw [hr] at h3
  have hw : 32 ∉ w := h3 w (by simp)
  have hd : s.drop (p.fin + 1) = w ++ tails rest := by rw [← List.drop_drop, h2]; rfl
  have hlen : p.fin + 1 + w.length + (tails rest).length = s.length := by
    have := congrArg List.length h2
    simp only [List.length_drop, List.length_cons, List.length_append] at this
    omega
  refine ⟨?_, ⟨by show p.fin + 1 + w.length ≤ s.length; omega, ?_, fun x hx => h3 x (by simp [hx])⟩, by omega⟩
  · rw [hd]
    cases rest with
    | nil => rw [show tails [] = [] from rfl, List.append_nil, cut_miss hw]
    | cons x l => rw [tails_cons, cut_hit _ hw]
  · show s.drop (p.fin + 1 + w.length) = tails rest
    rw [← List.drop_drop, hd, List.drop_left]
theorem PSok.end_ {s : Str} {p : PS} (h : PSok s p) : p.rest = [] ↔ p.fin = s.length := by
  obtain ⟨h1, h2, _⟩ := h
  constructor
  · intro e
    rw [e, show tails [] = [] from rfl] at h2
    have := congrArg List.length h2; simp at this; omega
  · intro e
    rw [e, List.drop_length] at h2
    cases hr : p.rest with
    | nil => rfl
    | cons w l => rw [hr, tails_cons] at h2; cases h2
end Go.Proofs.YtcdcmohccbhchaaGreatDoor

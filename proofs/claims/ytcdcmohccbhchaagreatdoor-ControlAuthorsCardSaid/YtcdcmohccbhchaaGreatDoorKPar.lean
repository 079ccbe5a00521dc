/- What Parse returns (plain): the words of a command read one after the other. -/
import Derived.Test.YtcdcmohccbhchaaGreatDoorKSpec
namespace Go.Proofs.YtcdcmohccbhchaaGreatDoor
open Go.RowKit

/-! ### message identifiers -/
def midTail : Str := [64, 104, 97, 115, 104, 62]
def midT (i : Id) : Str := 60 :: (hexT i.toList ++ midTail)
def midB (w : Str) : Bool := decide (w.length = 71) && w.headD 0 == 60 && ((w.drop 1).take 64).all hexB && w.drop 65 == midTail
def midV (w : Str) : Id := if midB w = true then vecOf 32 (unhex ((w.drop 1).take 64)) else zId

/-! ### errors of words -/
def openT : Str := [111, 112, 101, 110]
def modT : Str := [109, 111, 100, 101, 114, 97, 116, 101, 100]
def targetE (w : Str) : Int := if midB w = false then 3 else if midV w = zId then 1 else 0
def groupE (w : Str) : Int := if nameErr (bs w) ≠ 0 then 12 else 0
def numE (lo hi : Int) (w : Str) : Int := if numB w = false then 3 else if (numL w : Int) < lo ∨ hi < (numL w : Int) then 2 else 0
def numV (w : Str) : Int := if numB w = true then (numL w : Int) else 0
def autsV (w : Str) : List Aut := (splitL 44 w).map autOf
def autsE (w : Str) : Int := if ((splitL 44 w).any fun x => decide ((autErr x).2 ≠ 0)) = true then 3 else if 8 < (splitL 44 w).length then 9 else if incA (autsV w) = false then 30 else 0
def restE (t : Str) : Int := if t = [] then 4 else textErr t

/-! ### what reads a word -/
section
variable (n : Nat)
def PS.targetP (p : PS) : PS × Id := if (p.next n).2.2 = true then ((p.next n).1.fail (p.next n).1.start (targetE (p.next n).2.1), midV (p.next n).2.1) else ((p.next n).1, zId)
def PS.groupP (p : PS) : PS × Str := if (p.next n).2.2 = true then ((p.next n).1.fail (p.next n).1.start (groupE (p.next n).2.1), (p.next n).2.1) else ((p.next n).1, [])
def PS.numP (lo hi : Int) (p : PS) : PS × Int := if (p.next n).2.2 = true then ((p.next n).1.fail (p.next n).1.start (numE lo hi (p.next n).2.1), numV (p.next n).2.1) else ((p.next n).1, 0)
def PS.autsP (p : PS) : PS × Bool × List Aut := if (p.next n).2.2 = true then ((p.next n).1.fail (p.next n).1.start (autsE (p.next n).2.1), true, autsV (p.next n).2.1) else ((p.next n).1, true, [])
def PS.modeP (p : PS) : PS × Bool × List Aut :=
  if (p.next n).2.2 = false ∨ (p.next n).2.1 = openT then ((p.next n).1, false, [])
  else if (p.next n).2.1 ≠ modT then ((p.next n).1.fail (p.next n).1.start 3, false, []) else (p.next n).1.autsP n
end
def PS.restP (s : Str) (p : PS) : PS × Str :=
  if p.e ≠ 0 ∨ p.rest = [] then (p, []) else (({ p with start := p.fin + 1, fin := s.length, rest := [] } : PS).fail (p.fin + 1) (restE (s.drop (p.fin + 1))), s.drop (p.fin + 1))

theorem PSok.fail {s : Str} {p : PS} (h : PSok s p) (a : Nat) (e : Int) : PSok s (p.fail a e) := by
  unfold PS.fail; split
  · exact h
  · exact h
theorem PSok.next {s : Str} {p : PS} (h : PSok s p) (n : Nat) : PSok s (p.next n).1 := by
  unfold PS.next; split
  · exact h
  · split
    · exact h
    · rename_i hr; exact (h.cut hr).2.1
theorem PSok.target {s : Str} {p : PS} (h : PSok s p) (n : Nat) : PSok s (p.targetP n).1 := by
  unfold PS.targetP; split
  · exact (h.next n).fail _ _
  · exact h.next n
theorem PSok.group {s : Str} {p : PS} (h : PSok s p) (n : Nat) : PSok s (p.groupP n).1 := by
  unfold PS.groupP; split
  · exact (h.next n).fail _ _
  · exact h.next n
theorem PSok.num {s : Str} {p : PS} (h : PSok s p) (n : Nat) (lo hi : Int) : PSok s (p.numP n lo hi).1 := by
  unfold PS.numP; split
  · exact (h.next n).fail _ _
  · exact h.next n
theorem PSok.auts {s : Str} {p : PS} (h : PSok s p) (n : Nat) : PSok s (p.autsP n).1 := by
  unfold PS.autsP; split
  · exact (h.next n).fail _ _
  · exact h.next n
theorem PSok.mode {s : Str} {p : PS} (h : PSok s p) (n : Nat) : PSok s (p.modeP n).1 := by
  unfold PS.modeP; split
  · exact h.next n
  · split
    · exact (h.next n).fail _ _
    · exact (h.next n).auts n
theorem PSok.rest {s : Str} {p : PS} (h : PSok s p) : PSok s (p.restP s).1 := by
  unfold PS.restP; split
  · exact h
  · exact PSok.fail ⟨Nat.le_refl _, by rw [List.drop_length]; rfl, fun _ hw => by cases hw⟩ _ _
theorem PSok.start {s w : Str} {ws : List Str} (h : splitL 32 s = w :: ws) : PSok s ⟨0, w.length, ws, 0, 0⟩ := by
  have hj := join_split 32 s
  rw [h] at hj
  have gen : ∀ (l : List Str) (a : Str), Lib.join (a :: l) [32] = a ++ tails l := by
    intro l
    induction l with
    | nil => intro a; rw [Lib.join_one, show tails [] = [] from rfl, List.append_nil]
    | cons b l ih => intro a; rw [join_cons2, ih b, tails_cons]; simp
  rw [gen] at hj
  refine ⟨by rw [← hj]; simp, by rw [← hj]; simp, fun x hx => split_clean (by rw [h]; exact List.mem_cons_of_mem _ hx)⟩
end Go.Proofs.YtcdcmohccbhchaaGreatDoor

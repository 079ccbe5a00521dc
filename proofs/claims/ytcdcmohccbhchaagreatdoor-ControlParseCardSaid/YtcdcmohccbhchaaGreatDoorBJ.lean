/- What the reference's Parse returns (plain), and that it is what control.Parse returns. Numbers read off words: the reference's number. The reference's Words and sorts. The reference's bytes of a text in base64. The reference's base64.Decode. The reference's Parse of message identifiers. The reference's ParsePublic. The reference's word: what a word of a sort says. The reference's word: identifiers, public keys, authors; every sort. The reference's word at authors; every sort. The reference's Parse. -/
import Derived.Test.YtcdcmohccbhchaaGreatDoorBH
import Derived.Test.YtcdcmohccbhchaaGreatDoorBC
import Derived.Test.YtcdcmohccbhchaaGreatDoorBI
import Derived.Test.YtcdcmohccbhchaaGreatDoorBG
import Derived.Test.YtcdcmohccbhchaaGreatDoorBD
import Derived.Test.YtcdcmohccbhchaaGreatDoorBE
namespace Go.Proofs.YtcdcmohccbhchaaGreatDoor
open Go.RowKit

inductive Srt where
  | target | group | version | number | mode | authors | pub
  deriving DecidableEq
def srtE : Srt → Str → Int
  | .target, w => targetE w
  | .group, w => groupE w
  | .version, w => numE 0 1000000 w
  | .number, w => numE 1 1000 w
  | .mode, w => if w = modT ∨ w = openT then 0 else 3
  | .authors, w => autsE w
  | .pub, w => pubE w
def srtU (c : Cm) : Srt → Str → Cm
  | .target, w => { c with target := midV w }
  | .group, w => { c with group := bs w }
  | .version, w => { c with version := numV w }
  | .number, w => { c with number := numV w }
  | .mode, w => { c with moderated := decide (w = modT) }
  | .authors, w => { c with mods := autsV w }
  | .pub, w => { c with height := pubH w, root := pubR w }
/-- The words read one after the other: the first error's place and number, or the command, the end of the last word and the words that are left. -/
def runR (n : Nat) : List Srt → Cm → Nat → List Str → (Nat × Int) ⊕ (Cm × Nat × List Str)
  | [], c, f, R => .inr (c, f, R)
  | t :: L, c, f, R =>
    if t = .authors ∧ c.moderated = false then runR n L c f R
    else match R with
      | [] => .inl (n, 4)
      | w :: R => if srtE t w ≠ 0 then .inl (f + 1, srtE t w) else runR n L (srtU c t w) (f + 1 + w.length) R
def srts (k : Fin 5) : List Srt := match k with
  | 0 => [.target]
  | 1 => [.target, .group]
  | 2 => [.group, .version, .mode, .authors]
  | 3 => [.group, .version]
  | 4 => [.number, .pub]
/-- What is returned of what was read. -/
def endR (k : Fin 5) (s : Str) : (Nat × Int) ⊕ (Cm × Nat × List Str) → Cm × Nat × Int
  | .inl (a, e) => (cm0 0, a, e)
  | .inr (c, f, R) => if R = [] then (c, 0, 0) else if k ≠ 2 then (cm0 0, f, 5) else if restE (s.drop (f + 1)) ≠ 0 then (cm0 0, f + 1, restE (s.drop (f + 1))) else ({ c with text := bs (s.drop (f + 1)) }, 0, 0)
def refS (s : Str) : Cm × Nat × Int :=
  if 1000 < s.length then (cm0 0, 0, 5) else match kindK ((splitL 32 s).headD []) with
  | some k => endR k s (runR s.length (srts k) (cm0 ((k.val : Int) + 1)) ((splitL 32 s).headD []).length (splitL 32 s).tail)
  | none => (cm0 0, 0, 11)

/-! ### the steps of control.Parse, once more -/
section
variable (n st f a : Nat) (R : List Str) (e : Int)
theorem next_stuck (h : e ≠ 0) : (⟨st, f, R, a, e⟩ : PS).next n = (⟨st, f, R, a, e⟩, [], false) := by unfold PS.next; rw [if_pos h]
theorem target_stuck (h : e ≠ 0) : (⟨st, f, R, a, e⟩ : PS).targetP n = (⟨st, f, R, a, e⟩, zId) := by unfold PS.targetP; rw [next_stuck n st f a R e h, if_neg (by simp)]
theorem group_stuck (h : e ≠ 0) : (⟨st, f, R, a, e⟩ : PS).groupP n = (⟨st, f, R, a, e⟩, []) := by unfold PS.groupP; rw [next_stuck n st f a R e h, if_neg (by simp)]
theorem num_stuck (lo hi : Int) (h : e ≠ 0) : (⟨st, f, R, a, e⟩ : PS).numP n lo hi = (⟨st, f, R, a, e⟩, 0) := by unfold PS.numP; rw [next_stuck n st f a R e h, if_neg (by simp)]
theorem pub_stuck (h : e ≠ 0) : (⟨st, f, R, a, e⟩ : PS).pubP n = (⟨st, f, R, a, e⟩, 0, zAut) := by unfold PS.pubP; rw [next_stuck n st f a R e h, if_neg (by simp)]
theorem mode_stuck (h : e ≠ 0) : (⟨st, f, R, a, e⟩ : PS).modeP n = (⟨st, f, R, a, e⟩, false, []) := by unfold PS.modeP; rw [next_stuck n st f a R e h, if_pos (.inl rfl)]
theorem rest_stuck (s : Str) (h : e ≠ 0) : (⟨st, f, R, a, e⟩ : PS).restP s = (⟨st, f, R, a, e⟩, []) := by unfold PS.restP; rw [if_pos (.inl h)]
theorem fin_stuck (c : Cm) (h : e ≠ 0) : finP n (⟨st, f, R, a, e⟩, c) = (cm0 0, a, e) := by
  have hf : finS n ⟨st, f, R, a, e⟩ = ⟨st, f, R, a, e⟩ := by
    unfold finS PS.fail; split
    · rw [if_neg (fun q => h q.1)]
    · rfl
  unfold finP
  rw [hf, if_pos h]
theorem fail_new (h : e ≠ 0) (x : Nat) : (⟨st, f, R, a, 0⟩ : PS).fail x e = ⟨st, f, R, x, e⟩ := by unfold PS.fail; rw [if_pos ⟨rfl, h⟩]
theorem fin_all (c : Cm) : finP n (⟨st, n, R, a, 0⟩, c) = (c, 0, 0) := by
  unfold finP finS; rw [if_neg (Nat.lt_irrefl n), if_neg (by simp)]
end
section
variable (n st f a : Nat) (w : Str) (R : List Str)
theorem target_bad (h : targetE w ≠ 0) : (⟨st, f, w :: R, a, 0⟩ : PS).targetP n = (⟨f + 1, f + 1 + w.length, R, f + 1, targetE w⟩, midV w) := by
  unfold PS.targetP; rw [next_one, if_pos rfl]; simp only [fail_new _ _ _ _ _ h]
theorem group_bad (h : groupE w ≠ 0) : (⟨st, f, w :: R, a, 0⟩ : PS).groupP n = (⟨f + 1, f + 1 + w.length, R, f + 1, groupE w⟩, w) := by
  unfold PS.groupP; rw [next_one, if_pos rfl]; simp only [fail_new _ _ _ _ _ h]
theorem num_bad (lo hi : Int) (h : numE lo hi w ≠ 0) : (⟨st, f, w :: R, a, 0⟩ : PS).numP n lo hi = (⟨f + 1, f + 1 + w.length, R, f + 1, numE lo hi w⟩, numV w) := by
  unfold PS.numP; rw [next_one, if_pos rfl]; simp only [fail_new _ _ _ _ _ h]
theorem pub_bad' (h : pubE w ≠ 0) : (⟨st, f, w :: R, a, 0⟩ : PS).pubP n = (⟨f + 1, f + 1 + w.length, R, f + 1, pubE w⟩, pubH w, pubR w) := by
  unfold PS.pubP; rw [next_one, if_pos rfl]; simp only [fail_new _ _ _ _ _ h]
theorem auts_bad (h : autsE w ≠ 0) : (⟨st, f, w :: R, a, 0⟩ : PS).autsP n = (⟨f + 1, f + 1 + w.length, R, f + 1, autsE w⟩, true, autsV w) := by
  unfold PS.autsP; rw [next_one, if_pos rfl]; simp only [fail_new _ _ _ _ _ h]
theorem auts_none : (⟨st, f, [], a, 0⟩ : PS).autsP n = (⟨st, f, [], n, 4⟩, true, []) := by unfold PS.autsP; rw [next_none, if_neg (by simp)]
theorem mode_none : (⟨st, f, [], a, 0⟩ : PS).modeP n = (⟨st, f, [], n, 4⟩, false, []) := by unfold PS.modeP; rw [next_none, if_pos (.inl rfl)]
theorem mode_bad (h1 : w ≠ modT) (h2 : w ≠ openT) : (⟨st, f, w :: R, a, 0⟩ : PS).modeP n = (⟨f + 1, f + 1 + w.length, R, f + 1, 3⟩, false, []) := by
  unfold PS.modeP
  rw [next_one, if_neg (by rintro (h | h); cases h; exact h2 h), if_pos h1]
  simp only [fail_new _ _ _ _ 3 (by decide : (3 : Int) ≠ 0)]
theorem mode_then : (⟨st, f, modT :: R, a, 0⟩ : PS).modeP n = (⟨f + 1, f + 1 + modT.length, R, a, 0⟩ : PS).autsP n := by
  unfold PS.modeP; rw [next_one, if_neg (by simp [openT, modT]), if_neg (by simp)]
end
theorem ok_end {s : Str} {st f a : Nat} {R : List Str} {e : Int} (h : PSok s ⟨st, f, R, a, e⟩) : (R = [] → f = s.length) ∧ (R ≠ [] → f < s.length) := by
  have h1 := h.end_
  have h2 := h.1
  simp only at h1 h2
  exact ⟨fun e => h1.1 e, fun e => Nat.lt_of_le_of_ne h2 (fun q => e (h1.2 q))⟩
/-- What is left where all words were read. -/
theorem fin_left {s : Str} {st f a : Nat} {R : List Str} (h : PSok s ⟨st, f, R, a, 0⟩) (c : Cm) : finP s.length (⟨st, f, R, a, 0⟩, c) = if R = [] then (c, 0, 0) else (cm0 0, f, 5) := by
  obtain ⟨h1, h2⟩ := ok_end h
  by_cases hR : R = []
  · rw [if_pos hR, h1 hR, fin_all]
  · rw [if_neg hR, fin_long _ _ _ _ _ _ (h2 hR)]
section
variable {s : Str} {f : Nat} {R : List Str}
theorem ref1 (h : PSok s ⟨0, f, R, 0, 0⟩) : endR 0 s (runR s.length (srts 0) (cm0 1) f R) = finP s.length (read1 s.length ⟨0, f, R, 0, 0⟩) := by
  unfold read1 srts
  cases R with
  | nil => rw [target_none, fin_short]; rfl
  | cons w R =>
    by_cases he : targetE w = 0
    · have h' := h.target s.length
      rw [target_one _ _ _ _ _ _ he] at h' ⊢
      rw [fin_left h']
      show endR 0 s (if targetE w ≠ 0 then _ else _) = _
      rw [if_neg (fun q => q he)]; rfl
    · rw [target_bad _ _ _ _ _ _ he, fin_stuck _ _ _ _ _ _ _ he]
      show endR 0 s (if targetE w ≠ 0 then _ else _) = _
      rw [if_pos he]; rfl
theorem ref2 (h : PSok s ⟨0, f, R, 0, 0⟩) : endR 1 s (runR s.length (srts 1) (cm0 2) f R) = finP s.length (read2 s.length ⟨0, f, R, 0, 0⟩) := by
  unfold read2 srts
  cases R with
  | nil => rw [target_none]; simp only; rw [group_stuck _ _ _ _ _ _ (by decide), fin_short]; rfl
  | cons w R =>
    by_cases he : targetE w = 0
    · have h' := h.target s.length
      rw [target_one _ _ _ _ _ _ he] at h' ⊢
      simp only at h' ⊢
      have e1 : runR s.length [.target, .group] (cm0 2) f (w :: R) = runR s.length [.group] (srtU (cm0 2) .target w) (f + 1 + w.length) R := by
        show (if targetE w ≠ 0 then _ else _) = _
        rw [if_neg (fun q => q he)]
      rw [e1]
      cases R with
      | nil => rw [group_none, fin_short]; rfl
      | cons w2 R =>
        by_cases he2 : groupE w2 = 0
        · have h2 := h'.group s.length
          rw [group_one _ _ _ _ _ _ he2] at h2 ⊢
          rw [fin_left h2]
          show endR 1 s (if groupE w2 ≠ 0 then _ else _) = _
          rw [if_neg (fun q => q he2)]; rfl
        · rw [group_bad _ _ _ _ _ _ he2, fin_stuck _ _ _ _ _ _ _ he2]
          show endR 1 s (if groupE w2 ≠ 0 then _ else _) = _
          rw [if_pos he2]; rfl
    · rw [target_bad _ _ _ _ _ _ he]
      simp only
      rw [group_stuck _ _ _ _ _ _ he, fin_stuck _ _ _ _ _ _ _ he]
      show endR 1 s (if targetE w ≠ 0 then _ else _) = _
      rw [if_pos he]; rfl
theorem ref4 (h : PSok s ⟨0, f, R, 0, 0⟩) : endR 3 s (runR s.length (srts 3) (cm0 4) f R) = finP s.length (read4 s.length ⟨0, f, R, 0, 0⟩) := by
  unfold read4 srts
  cases R with
  | nil => rw [group_none]; simp only; rw [num_stuck _ _ _ _ _ _ _ _ (by decide), fin_short]; rfl
  | cons w R =>
    by_cases he : groupE w = 0
    · have h' := h.group s.length
      rw [group_one _ _ _ _ _ _ he] at h' ⊢
      simp only at h' ⊢
      have e1 : runR s.length [.group, .version] (cm0 4) f (w :: R) = runR s.length [.version] (srtU (cm0 4) .group w) (f + 1 + w.length) R := by
        show (if groupE w ≠ 0 then _ else _) = _
        rw [if_neg (fun q => q he)]
      rw [e1]
      cases R with
      | nil => rw [num_none, fin_short]; rfl
      | cons w2 R =>
        by_cases he2 : numE 0 1000000 w2 = 0
        · have h2 := h'.num s.length 0 1000000
          rw [num_one _ _ _ _ _ _ _ _ he2] at h2 ⊢
          rw [fin_left h2]
          show endR 3 s (if numE 0 1000000 w2 ≠ 0 then _ else _) = _
          rw [if_neg (fun q => q he2)]; rfl
        · rw [num_bad _ _ _ _ _ _ _ _ he2, fin_stuck _ _ _ _ _ _ _ he2]
          show endR 3 s (if numE 0 1000000 w2 ≠ 0 then _ else _) = _
          rw [if_pos he2]; rfl
    · rw [group_bad _ _ _ _ _ _ he]
      simp only
      rw [num_stuck _ _ _ _ _ _ _ _ he, fin_stuck _ _ _ _ _ _ _ he]
      show endR 3 s (if groupE w ≠ 0 then _ else _) = _
      rw [if_pos he]; rfl
theorem ref5 (h : PSok s ⟨0, f, R, 0, 0⟩) : endR 4 s (runR s.length (srts 4) (cm0 5) f R) = finP s.length (read5 s.length ⟨0, f, R, 0, 0⟩) := by
  unfold read5 srts
  cases R with
  | nil => rw [num_none]; simp only; rw [pub_stuck _ _ _ _ _ _ (by decide), fin_short]; rfl
  | cons w R =>
    by_cases he : numE 1 1000 w = 0
    · have h' := h.num s.length 1 1000
      rw [num_one _ _ _ _ _ _ _ _ he] at h' ⊢
      simp only at h' ⊢
      have e1 : runR s.length [.number, .pub] (cm0 5) f (w :: R) = runR s.length [.pub] (srtU (cm0 5) .number w) (f + 1 + w.length) R := by
        show (if numE 1 1000 w ≠ 0 then _ else _) = _
        rw [if_neg (fun q => q he)]
      rw [e1]
      cases R with
      | nil => rw [pub_none, fin_short]; rfl
      | cons w2 R =>
        by_cases he2 : pubE w2 = 0
        · have h2 := h'.pub s.length
          rw [pub_one _ _ _ _ _ _ he2] at h2 ⊢
          rw [fin_left h2]
          show endR 4 s (if pubE w2 ≠ 0 then _ else _) = _
          rw [if_neg (fun q => q he2)]; rfl
        · rw [pub_bad' _ _ _ _ _ _ he2, fin_stuck _ _ _ _ _ _ _ he2]
          show endR 4 s (if pubE w2 ≠ 0 then _ else _) = _
          rw [if_pos he2]; rfl
    · rw [num_bad _ _ _ _ _ _ _ _ he]
      simp only
      rw [pub_stuck _ _ _ _ _ _ he, fin_stuck _ _ _ _ _ _ _ he]
      show endR 4 s (if numE 1 1000 w ≠ 0 then _ else _) = _
      rw [if_pos he]; rfl
theorem rest_fin {st f a : Nat} {R : List Str} (h : PSok s ⟨st, f, R, a, 0⟩) (mk : Str → Cm) :
    finP s.length (((⟨st, f, R, a, 0⟩ : PS).restP s).1, mk ((⟨st, f, R, a, 0⟩ : PS).restP s).2) = if R = [] then (mk [], 0, 0) else if restE (s.drop (f + 1)) ≠ 0 then (cm0 0, f + 1, restE (s.drop (f + 1))) else (mk (s.drop (f + 1)), 0, 0) := by
  by_cases hR : R = []
  · have e : (⟨st, f, R, a, 0⟩ : PS).restP s = (⟨st, f, R, a, 0⟩, []) := by unfold PS.restP; rw [if_pos (.inr hR)]
    rw [e, if_pos hR, fin_left h, if_pos hR]
  · have e : (⟨st, f, R, a, 0⟩ : PS).restP s = ((⟨f + 1, s.length, [], a, 0⟩ : PS).fail (f + 1) (restE (s.drop (f + 1))), s.drop (f + 1)) := by
      unfold PS.restP; rw [if_neg (by rintro (q | q); exact q rfl; exact hR q)]
    rw [e, if_neg hR]
    by_cases he : restE (s.drop (f + 1)) = 0
    · rw [if_neg (fun q => q he), he, fail_zero, fin_all]
    · rw [if_pos he, fail_new _ _ _ _ _ he, fin_stuck _ _ _ _ _ _ _ he]
theorem read3_eq (n : Nat) (p : PS) : read3 n s p = (((((p.groupP n).1.numP n 0 1000000).1.modeP n).1.restP s).1, (fun x : Str => { cm0 3 with group := bs (p.groupP n).2, version := ((p.groupP n).1.numP n 0 1000000).2, moderated := (((p.groupP n).1.numP n 0 1000000).1.modeP n).2.1, mods := (((p.groupP n).1.numP n 0 1000000).1.modeP n).2.2, text := bs x }) ((((p.groupP n).1.numP n 0 1000000).1.modeP n).1.restP s).2) := rfl
theorem ref3 (h : PSok s ⟨0, f, R, 0, 0⟩) : endR 2 s (runR s.length (srts 2) (cm0 3) f R) = finP s.length (read3 s.length s ⟨0, f, R, 0, 0⟩) := by
  rw [read3_eq]
  unfold srts
  cases R with
  | nil =>
    rw [group_none]; simp only
    rw [num_stuck _ _ _ _ _ _ _ _ (by decide)]; simp only
    rw [mode_stuck _ _ _ _ _ _ (by decide)]; simp only
    rw [rest_stuck _ _ _ _ _ _ (by decide), fin_short]; rfl
  | cons w R =>
    by_cases he : groupE w = 0
    · have h' := h.group s.length
      rw [group_one _ _ _ _ _ _ he] at h' ⊢
      simp only at h' ⊢
      have e1 : runR s.length [.group, .version, .mode, .authors] (cm0 3) f (w :: R) = runR s.length [.version, .mode, .authors] (srtU (cm0 3) .group w) (f + 1 + w.length) R := by
        show (if groupE w ≠ 0 then _ else _) = _
        rw [if_neg (fun q => q he)]
      rw [e1]
      cases R with
      | nil =>
        rw [num_none]; simp only
        rw [mode_stuck _ _ _ _ _ _ (by decide)]; simp only
        rw [rest_stuck _ _ _ _ _ _ (by decide), fin_short]; rfl
      | cons w2 R =>
        by_cases he2 : numE 0 1000000 w2 = 0
        · have h2 := h'.num s.length 0 1000000
          rw [num_one _ _ _ _ _ _ _ _ he2] at h2 ⊢
          simp only at h2 ⊢
          have e2 : runR s.length [.version, .mode, .authors] (srtU (cm0 3) .group w) (f + 1 + w.length) (w2 :: R) = runR s.length [.mode, .authors] (srtU (srtU (cm0 3) .group w) .version w2) (f + 1 + w.length + 1 + w2.length) R := by
            show (if numE 0 1000000 w2 ≠ 0 then _ else _) = _
            rw [if_neg (fun q => q he2)]
          rw [e2]
          generalize f + 1 + w.length + 1 = f2 at *
          cases R with
          | nil =>
            rw [mode_none]; simp only
            rw [rest_stuck _ _ _ _ _ _ (by decide), fin_short]; rfl
          | cons w3 R =>
            have h3 := h2.mode s.length
            by_cases ho : w3 = openT
            · subst ho
              rw [mode_open] at h3 ⊢
              simp only at h3 ⊢
              rw [rest_fin h3 (fun x : Str => { cm0 3 with group := bs w, version := numV w2, moderated := false, mods := [], text := bs x })]
              rfl
            · by_cases hm : w3 = modT
              · subst hm
                rw [mode_then] at h3 ⊢
                cases R with
                | nil =>
                  rw [auts_none]; simp only
                  rw [rest_stuck _ _ _ _ _ _ (by decide), fin_short]; rfl
                | cons w4 R =>
                  by_cases he4 : autsE w4 = 0
                  · rw [auts_one _ _ _ _ _ _ he4] at h3 ⊢
                    simp only at h3 ⊢
                    rw [rest_fin h3 (fun x : Str => { cm0 3 with group := bs w, version := numV w2, moderated := true, mods := autsV w4, text := bs x })]
                    have e3 : runR s.length [.mode, .authors] (srtU (srtU (cm0 3) .group w) .version w2) (f2 + w2.length) (modT :: w4 :: R) = .inr (srtU (srtU (srtU (srtU (cm0 3) .group w) .version w2) .mode modT) .authors w4, f2 + w2.length + 1 + modT.length + 1 + w4.length, R) := by
                      show (if autsE w4 ≠ 0 then _ else _) = _
                      rw [if_neg (fun q => q he4)]; rfl
                    rw [e3]; rfl
                  · rw [auts_bad _ _ _ _ _ _ he4]
                    simp only
                    rw [rest_stuck _ _ _ _ _ _ he4, fin_stuck _ _ _ _ _ _ _ he4]
                    show endR 2 s (if autsE w4 ≠ 0 then _ else _) = _
                    rw [if_pos he4]; rfl
              · rw [mode_bad _ _ _ _ _ _ hm ho]
                simp only
                rw [rest_stuck _ _ _ _ _ _ (by decide), fin_stuck _ _ _ _ _ _ _ (by decide)]
                have e3 : runR s.length [.mode, .authors] (srtU (srtU (cm0 3) .group w) .version w2) (f2 + w2.length) (w3 :: R) = .inl (f2 + w2.length + 1, 3) := by
                  have e4 : srtE .mode w3 = 3 := if_neg (show ¬ (w3 = modT ∨ w3 = openT) by rintro (q | q); exact hm q; exact ho q)
                  show (if srtE .mode w3 ≠ 0 then _ else _) = _
                  rw [e4]; rfl
                rw [e3]; rfl
        · rw [num_bad _ _ _ _ _ _ _ _ he2]
          simp only
          rw [mode_stuck _ _ _ _ _ _ he2]; simp only
          rw [rest_stuck _ _ _ _ _ _ he2, fin_stuck _ _ _ _ _ _ _ he2]
          show endR 2 s (if numE 0 1000000 w2 ≠ 0 then _ else _) = _
          rw [if_pos he2]; rfl
    · rw [group_bad _ _ _ _ _ _ he]
      simp only
      rw [num_stuck _ _ _ _ _ _ _ _ he]; simp only
      rw [mode_stuck _ _ _ _ _ _ he]; simp only
      rw [rest_stuck _ _ _ _ _ _ he, fin_stuck _ _ _ _ _ _ _ he]
      show endR 2 s (if groupE w ≠ 0 then _ else _) = _
      rw [if_pos he]; rfl
end
theorem refS_eq (s : Str) : refS s = parseS s := by
  unfold refS parseS
  by_cases hs : 1000 < s.length
  · rw [if_pos hs, if_pos hs]
  · rw [if_neg hs, if_neg hs]
    obtain ⟨w0, ws, hsp⟩ : ∃ w0 ws, splitL 32 s = w0 :: ws := by
      cases h : splitL 32 s with
      | nil => exact absurd h (splitL_ne 32 s)
      | cons a l => exact ⟨a, l, rfl⟩
    rw [hsp]
    simp only [List.headD_cons, List.tail_cons]
    cases hk : kindK w0 with
    | none => rfl
    | some k =>
      have hok := PSok.start hsp
      have : k = 0 ∨ k = 1 ∨ k = 2 ∨ k = 3 ∨ k = 4 := by omega
      rcases this with rfl | rfl | rfl | rfl | rfl
      · exact ref1 hok
      · exact ref2 hok
      · exact ref3 hok
      · exact ref4 hok
      · exact ref5 hok
end Go.Proofs.YtcdcmohccbhchaaGreatDoor

namespace Go.Proofs.YtcdcmohccbhchaaGreatDoor
open Go.RowKit

def numRV (s : Str) : Value := .int .i64 (if numB s = true then (numL s : Int) else -1)
set_option maxRecDepth 100000 in
set_option maxHeartbeats 2000000 in
theorem refNumC (s : ByteArray) (w : World) : Calls Tryz.prog 91 #[.string s] w fun e w' => e = .returned (numRV (bl s)) ∧ w = w' := by
  have hsz := bl_length s
  by_cases h0 : s.size = 0
  · have hl : bl s = [] := List.length_eq_zero_iff.1 (by rw [hsz]; exact h0)
    have he : s.toList.isEmpty = true := by rw [bl_toList, hl]; rfl
    have HF : Hid (numRV (bl s) = .int .i64 (-1)) := by show _ = _; rw [hl]; rfl
    clear hl h0 hsz
    go_enter Tryz.func91, Tryz.ntmps91
    go_wp2_with fail
    go_ret
    exact ⟨by rw [HF.out]; rfl, rfl⟩
  · have hp : 0 < s.size := by omega
    have he : s.toList.isEmpty = false := by rw [bl_toList, List.isEmpty_eq_false_iff]; intro h; rw [h] at hsz; simp at hsz; omega
    by_cases h7 : 7 < s.size
    · have HF : Hid (numRV (bl s) = .int .i64 (-1)) := by
        have : numB (bl s) = false := by unfold numB; rw [hsz]; simp; omega
        show _ = _; unfold numRV; rw [this]; rfl
      have hd : decide (7 < (s.size : Int)) = true := by simp; omega
      clear hsz h0
      go_enter Tryz.func91, Tryz.ntmps91
      go_wp2_with fail
      go_ret
      exact ⟨by rw [HF.out]; rfl, rfl⟩
    · have hd : decide (7 < (s.size : Int)) = false := by simp; omega
      have HH := Lib.hid (headD_get s hp)
      by_cases h1 : 1 < s.size ∧ s[0].toNat = 48
      · have HF : Hid (numRV (bl s) = .int .i64 (-1)) := by
          have : numB (bl s) = false := by
            unfold numB; rw [hsz, HH.out]
            have : (s[0] == 48) = true := by rw [beq_iff_eq]; exact UInt8.toNat_inj.1 h1.2
            rw [this]; simp [h1.1]
          show _ = _; unfold numRV; rw [this]; rfl
        have hd1 : decide (1 < (s.size : Int)) = true := by simp; omega
        have hc : ((s[0].toNat : Int) == 48) = true := by rw [h1.2]; rfl
        clear hsz h0 h1
        go_enter Tryz.func91, Tryz.ntmps91
        go_wp2_with fail
        go_ret
        exact ⟨by rw [HF.out]; rfl, rfl⟩
      · have HN : Hid (numB (bl s) = (bl s).all isD) := by
          show _ = _
          unfold numB; rw [hsz, HH.out]
          have a1 : decide (1 ≤ s.size) = true := by simp; omega
          have a2 : decide (s.size ≤ 7) = true := by simp; omega
          have a3 : (decide (1 < s.size) && s[0] == 48) = false := by
            rw [Bool.and_eq_false_iff]
            by_cases q : 1 < s.size
            · right; rw [beq_eq_false_iff_ne]; intro e; exact h1 ⟨q, by rw [e]; rfl⟩
            · left; simpa using q
          rw [a1, a2, a3]; rfl
        have hcases : ((s[0].toNat : Int) == 48) = false ∨ (decide (1 < (s.size : Int)) = false ∧ ((s[0].toNat : Int) == 48) = true) := by
          by_cases q : s[0].toNat = 48
          · right; refine ⟨by simp; omega, by rw [q]; rfl⟩
          · left; rw [beq_eq_false_iff_ne]; omega
        have HSZ := Lib.hid hsz
        clear hsz h1
        rcases hcases with hc0 | ⟨hd1, hc0⟩
        · go_enter Tryz.func91, Tryz.ntmps91
          go_wp2_with fail
          go_loop [3, 4, 22, 23, 24, 25, 26, 27, 28, 29, 30, 31, 32, 33, 34, 35, 36, 37, 38, 39, 40, 41, 42, 43, 44, 45] (fun nn i _ _ _ _ _ _ _ _ _ _ _ _ _ _ _ _ _ _ _ _ _ _ _ _ => ∃ k : Nat, k ≤ s.size ∧ i = .int .i64 k ∧ nn = .int .i64 (numL ((bl s).take k) : Int) ∧ Hid (((bl s).take k).all isD = true)) (fun _ i _ _ _ _ _ _ _ _ _ _ _ _ _ _ _ _ _ _ _ _ _ _ _ _ => s.size - (intOf i).toNat)
          case atStart => exact ⟨0, Nat.zero_le _, rfl, rfl, rfl⟩
          case round =>
            obtain ⟨k, hk, rfl, rfl, hh⟩ := hrel
            by_cases hlt : k < s.size
            · have HS := Lib.hid (decT_succ s k hlt)
              have HST : Hid (((bl s).take (k + 1)).all isD = false → (bl s).all isD = false) := all_stop _ _
              have hk1 : (k : Int) < (s.size : Int) := by omega
              have hk2 : (0 : Int) ≤ (k : Int) := by omega
              have hb1 := numL_lt ((bl s).take k) hh.out
              have hb2 : numL ((bl s).take k) < 10000000 := Nat.lt_of_lt_of_le hb1 (show 10 ^ ((bl s).take k).length ≤ 10 ^ 7 from Nat.pow_le_pow_right (by decide) (by rw [List.length_take]; omega))
              have hcb := s[k].toNat_lt
              generalize hnv : numL ((bl s).take k) = nv at *
              have HC : Hid (numL ((bl s).take (k + 1)) = 10 * nv + (s[k].toNat - 48)) := HS.out.2
              have HA : Hid (((bl s).take (k + 1)).all isD = (((bl s).take k).all isD && (!decide ((s[k].toNat : Int) < 48) && !decide (57 < (s[k].toNat : Int))))) := HS.out.1
              clear HS hb1
              generalize hcn : s[k].toNat = cn at *
              cases hx : decide ((cn : Int) < 48) with
              | true =>
                have HF : Hid ((bl s).all isD = false) := HST.out (by rw [HA.out, hx]; simp)
                go_wp2_with fail
                go_ret
                exact ⟨by unfold numRV; rw [HN.out, HF.out]; rfl, rfl⟩
              | false =>
                cases hy : decide (57 < (cn : Int)) with
                | true =>
                  have HF : Hid ((bl s).all isD = false) := HST.out (by rw [HA.out, hy]; simp)
                  go_wp2_with fail
                  go_ret
                  exact ⟨by unfold numRV; rw [HN.out, HF.out]; rfl, rfl⟩
                | false =>
                  have HF : Hid (((bl s).take (k + 1)).all isD = true) := by show _ = _; rw [HA.out, hx, hy, hh.out]; rfl
                  have hr1 : 48 ≤ cn := by have := of_decide_eq_false hx; omega
                  have hr2 : cn ≤ 57 := by have := of_decide_eq_false hy; omega
                  have w1 : IntKind.i64.wrap (10 * (nv : Int)) = 10 * (nv : Int) := by rw [IntKind.wrap_i64]; omega
                  have w2 : IntKind.u8.wrap ((cn : Int) - 48) = ((cn - 48 : Nat) : Int) := by rw [IntKind.wrap_u8]; omega
                  have w3 : IntKind.i64.wrap (10 * (nv : Int) + ((cn - 48 : Nat) : Int)) = ((10 * nv + (cn - 48) : Nat) : Int) := by rw [IntKind.wrap_i64]; omega
                  have w4 : IntKind.i64.wrap ((cn - 48 : Nat) : Int) = ((cn - 48 : Nat) : Int) := by rw [IntKind.wrap_i64]; omega
                  generalize hq : cn - 48 = q at *
                  go_wp2_with fail
                  go_round
                  case rel => exact ⟨k + 1, by omega, by go_num, by rw [HC.out]; first | rfl | (congr 1; omega), HF.out⟩
                  case measure => simp [intOf]; omega
            · have hk1 : ¬ (k : Int) < (s.size : Int) := by omega
              have HF : Hid ((bl s).take k = bl s) := List.take_of_length_le (by rw [HSZ.out]; omega)
              clear HSZ
              go_wp2_with fail
              go_ret
              have h2 := hh.out
              rw [HF.out] at h2
              refine ⟨?_, rfl⟩
              unfold numRV
              rw [HN.out, h2, HF.out]; rfl
        · go_enter Tryz.func91, Tryz.ntmps91
          go_wp2_with fail
          go_loop [3, 4, 22, 23, 24, 25, 26, 27, 28, 29, 30, 31, 32, 33, 34, 35, 36, 37, 38, 39, 40, 41, 42, 43, 44, 45] (fun nn i _ _ _ _ _ _ _ _ _ _ _ _ _ _ _ _ _ _ _ _ _ _ _ _ => ∃ k : Nat, k ≤ s.size ∧ i = .int .i64 k ∧ nn = .int .i64 (numL ((bl s).take k) : Int) ∧ Hid (((bl s).take k).all isD = true)) (fun _ i _ _ _ _ _ _ _ _ _ _ _ _ _ _ _ _ _ _ _ _ _ _ _ _ => s.size - (intOf i).toNat)
          case atStart => exact ⟨0, Nat.zero_le _, rfl, rfl, rfl⟩
          case round =>
            obtain ⟨k, hk, rfl, rfl, hh⟩ := hrel
            by_cases hlt : k < s.size
            · have HS := Lib.hid (decT_succ s k hlt)
              have HST : Hid (((bl s).take (k + 1)).all isD = false → (bl s).all isD = false) := all_stop _ _
              have hk1 : (k : Int) < (s.size : Int) := by omega
              have hk2 : (0 : Int) ≤ (k : Int) := by omega
              have hb1 := numL_lt ((bl s).take k) hh.out
              have hb2 : numL ((bl s).take k) < 10000000 := Nat.lt_of_lt_of_le hb1 (show 10 ^ ((bl s).take k).length ≤ 10 ^ 7 from Nat.pow_le_pow_right (by decide) (by rw [List.length_take]; omega))
              have hcb := s[k].toNat_lt
              generalize hnv : numL ((bl s).take k) = nv at *
              have HC : Hid (numL ((bl s).take (k + 1)) = 10 * nv + (s[k].toNat - 48)) := HS.out.2
              have HA : Hid (((bl s).take (k + 1)).all isD = (((bl s).take k).all isD && (!decide ((s[k].toNat : Int) < 48) && !decide (57 < (s[k].toNat : Int))))) := HS.out.1
              clear HS hb1
              generalize hcn : s[k].toNat = cn at *
              cases hx : decide ((cn : Int) < 48) with
              | true =>
                have HF : Hid ((bl s).all isD = false) := HST.out (by rw [HA.out, hx]; simp)
                go_wp2_with fail
                go_ret
                exact ⟨by unfold numRV; rw [HN.out, HF.out]; rfl, rfl⟩
              | false =>
                cases hy : decide (57 < (cn : Int)) with
                | true =>
                  have HF : Hid ((bl s).all isD = false) := HST.out (by rw [HA.out, hy]; simp)
                  go_wp2_with fail
                  go_ret
                  exact ⟨by unfold numRV; rw [HN.out, HF.out]; rfl, rfl⟩
                | false =>
                  have HF : Hid (((bl s).take (k + 1)).all isD = true) := by show _ = _; rw [HA.out, hx, hy, hh.out]; rfl
                  have hr1 : 48 ≤ cn := by have := of_decide_eq_false hx; omega
                  have hr2 : cn ≤ 57 := by have := of_decide_eq_false hy; omega
                  have w1 : IntKind.i64.wrap (10 * (nv : Int)) = 10 * (nv : Int) := by rw [IntKind.wrap_i64]; omega
                  have w2 : IntKind.u8.wrap ((cn : Int) - 48) = ((cn - 48 : Nat) : Int) := by rw [IntKind.wrap_u8]; omega
                  have w3 : IntKind.i64.wrap (10 * (nv : Int) + ((cn - 48 : Nat) : Int)) = ((10 * nv + (cn - 48) : Nat) : Int) := by rw [IntKind.wrap_i64]; omega
                  have w4 : IntKind.i64.wrap ((cn - 48 : Nat) : Int) = ((cn - 48 : Nat) : Int) := by rw [IntKind.wrap_i64]; omega
                  generalize hq : cn - 48 = q at *
                  go_wp2_with fail
                  go_round
                  case rel => exact ⟨k + 1, by omega, by go_num, by rw [HC.out]; first | rfl | (congr 1; omega), HF.out⟩
                  case measure => simp [intOf]; omega
            · have hk1 : ¬ (k : Int) < (s.size : Int) := by omega
              have HF : Hid ((bl s).take k = bl s) := List.take_of_length_le (by rw [HSZ.out]; omega)
              clear HSZ
              go_wp2_with fail
              go_ret
              have h2 := hh.out
              rw [HF.out] at h2
              refine ⟨?_, rfl⟩
              unfold numRV
              rw [HN.out, h2, HF.out]; rfl
end Go.Proofs.YtcdcmohccbhchaaGreatDoor

namespace Go.Proofs.YtcdcmohccbhchaaGreatDoor
open Go.RowKit

theorem bl_ext (s : ByteArray) (f k : Nat) : bl (s.extract f k) = ((bl s).take k).drop f := by
  unfold bl
  rw [ByteArray.data_extract, Array.toList_extract, List.extract_eq_take_drop, List.drop_take]
def WAt (s : ByteArray) (c : UInt8) (k f : Nat) (lo : List ByteArray) : Prop :=
  if k ≤ s.size then splitL c (bl s) = lo.map bl ++ splitL c ((bl s).drop f) ∧ c ∉ ((bl s).take k).drop f else splitL c (bl s) = lo.map bl
theorem WAt.start (s : ByteArray) (c : UInt8) : WAt s c 0 0 [] := by
  unfold WAt
  rw [if_pos (Nat.zero_le _)]
  exact ⟨rfl, by simp⟩
theorem WAt.hit {s : ByteArray} {c : UInt8} {k f : Nat} {lo : List ByteArray} (h : WAt s c k f lo) (hf : f ≤ k) (hk : k < s.size) (e : s[k].toNat = c.toNat) : WAt s c (k + 1) (k + 1) (lo ++ [s.extract f k]) := by
  unfold WAt at *
  rw [if_pos (by omega)] at h ⊢
  obtain ⟨h1, h2⟩ := h
  have e' : s[k] = c := UInt8.toNat_inj.1 e
  have hd : (bl s).drop f = ((bl s).take k).drop f ++ c :: (bl s).drop (k + 1) := by
    rw [← e', ← drop_cons s k hk]
    conv => lhs; rw [← List.take_append_drop k (bl s)]
    rw [List.drop_append_of_le_length (by rw [List.length_take, bl_length]; omega)]
  refine ⟨?_, by rw [List.drop_of_length_le (by rw [List.length_take, bl_length]; omega)]; simp⟩
  rw [h1, hd, splitL_app _ h2, List.map_append, List.append_assoc]
  rw [List.map_cons, List.map_nil, bl_ext]; rfl
theorem WAt.last {s : ByteArray} {c : UInt8} {k f : Nat} {lo : List ByteArray} (h : WAt s c k f lo) (hk : k = s.size) : WAt s c (k + 1) (k + 1) (lo ++ [s.extract f k]) := by
  unfold WAt at *
  rw [if_pos (by omega)] at h
  rw [if_neg (by omega)]
  obtain ⟨h1, h2⟩ := h
  have ht : (bl s).take k = bl s := List.take_of_length_le (by rw [bl_length]; omega)
  rw [ht] at h2
  rw [h1, splitL_none h2, List.map_append, List.map_cons, List.map_nil, bl_ext, ht]
theorem WAt.miss {s : ByteArray} {c : UInt8} {k f : Nat} {lo : List ByteArray} (h : WAt s c k f lo) (hf : f ≤ k) (hk : k < s.size) (e : s[k].toNat ≠ c.toNat) : WAt s c (k + 1) f lo := by
  unfold WAt at *
  rw [if_pos (by omega)] at h ⊢
  obtain ⟨h1, h2⟩ := h
  refine ⟨h1, ?_⟩
  rw [List.take_succ_eq_append_getElem (by rw [bl_length]; exact hk), List.drop_append_of_le_length (by rw [List.length_take, bl_length]; omega)]
  rw [List.mem_append, List.mem_singleton]
  rintro (q | q)
  · exact h2 q
  · exact e (by rw [q]; rfl)
theorem WAt.stop {s : ByteArray} {c : UInt8} {k f : Nat} {lo : List ByteArray} (h : WAt s c k f lo) (hk : s.size < k) : lo.map bl = splitL c (bl s) := by
  unfold WAt at h
  rw [if_neg (by omega)] at h
  exact h.symm
set_option maxRecDepth 100000 in
set_option maxHeartbeats 4000000 in
theorem refWordsC (s : ByteArray) (c : UInt8) (z : Int) (hz : z = (c.toNat : Int)) (w : World) (hs : s.size ≤ 1100) : Calls Tryz.prog 53 #[.string s, .int .u8 z] w fun e w' => ∃ l v, e = .returned v ∧ l.map bl = splitL c (bl s) ∧ OwnS w' w.heap.size v l ∧ Gr w w' := by
  subst hz
  have HS := Lib.hid (WAt.start s c)
  generalize hcn : c.toNat = cn at *
  have HCN := Lib.hid hcn
  clear hcn
  go_enter Tryz.func53, Tryz.ntmps53
  go_wp2_with fail
  go_loopw [5, 6, 7, 8, 9, 10, 11, 12, 13, 14, 15, 16, 17, 18, 19, 20, 21, 22, 23, 24, 25, 26, 27, 28, 29, 30, 31, 32, 33] (fun so sf i _ _ _ _ _ _ _ _ _ _ _ _ _ _ _ _ _ _ _ _ _ _ _ _ _ _ wr => ∃ (k f : Nat) (lo : List ByteArray), k ≤ s.size + 1 ∧ f ≤ k ∧ i = .int .i64 k ∧ sf = .int .i64 f ∧ lo.length ≤ k ∧ Hid (WAt s c k f lo) ∧ Hid (Gr w wr) ∧ Hid (OwnS wr w.heap.size so lo)) (fun _ _ i _ _ _ _ _ _ _ _ _ _ _ _ _ _ _ _ _ _ _ _ _ _ _ _ _ _ _ => s.size + 1 - (intOf i).toNat)
  case atStart => exact ⟨0, 0, [], Nat.zero_le _, Nat.le_refl _, rfl, rfl, Nat.le_refl _, HS.out, Gr.refl _, OwnS.nil _ _⟩
  case round =>
    obtain ⟨k, f, lo, hk, hf, rfl, rfl, hlo, hW, hG, hO⟩ := hrel
    have HZ := Lib.hid hG.out.size
    have HO7 := Lib.hid (hO.out.gr ((Gr.refl wr).alloc (.cells #[.string (s.extract f k)] 9)))
    have HO8 : Hid (OwnS (wr.alloc (.cells #[.string (s.extract f k)] 9)) w.heap.size (.slice (some ⟨wr.heap.size, 0, none⟩) 1 1) [s.extract f k]) := OwnS.made (l := [s.extract f k]) (heap_alloc_new wr _) HZ.out (by simp)
    have HZ7 : Hid (w.heap.size ≤ (wr.alloc (.cells #[.string (s.extract f k)] 9)).heap.size) := by show _ ≤ _; have := HZ.out; simp; omega
    have G2 := Lib.hid (hG.out.alloc (.cells #[.string (s.extract f k)] 9))
    have p0 : (0 : Int) ≤ (k : Int) := by omega
    have p1 : (0 : Int) ≤ (f : Int) := by omega
    have p2 : (f : Int) ≤ (k : Int) := by omega
    by_cases hend : k = s.size
    · have q1 : (k : Int) ≤ (s.size : Int) := by omega
      have q2 : ((k : Int) == (s.size : Int)) = true := by simp; omega
      have HE := Lib.hid (hW.out.last hend)
      have hle : k ≤ s.size := by omega
      clear hW hend
      go_wp2_with (refine wpList_append_str _ rfl _ _ rfl w.heap.size u5 lo (by simp [Act.eval]) HO7.out (.slice (some ⟨wr.heap.size, 0, none⟩) 1 1) [s.extract f k] (by simp [Act.eval]) HO8.out (by simp; omega) HZ7.out ?_; intro a3 c3 w3 ho3 hg3)
      have G3 := Lib.hid (G2.out.grown hg3 (fun q hq => (World.ownsRow.lt HO7.out q hq).1))
      rw [List.length_append, List.length_singleton] at ho3
      have HO3 := Lib.hid ho3
      clear hg3 ho3
      go_roundw
      case rel => exact ⟨k + 1, k + 1, lo ++ [s.extract f k], by omega, Nat.le_refl _, by go_num, by go_num, by simp; omega, HE.out, G3.out, HO3.out⟩
      case measure => simp [intOf]; omega
    · by_cases hlt : k < s.size
      · have q1 : (k : Int) ≤ (s.size : Int) := by omega
        have q2 : ((k : Int) == (s.size : Int)) = false := by simp; omega
        have q3 : (k : Int) < (s.size : Int) := by omega
        by_cases hc : s[k].toNat = cn
        · have y1 : ((s[k].toNat : Int) == (cn : Int)) = true := by simp [hc]
          have HE := Lib.hid (hW.out.hit hf hlt (hc.trans HCN.out.symm))
          clear hW hc
          go_wp2_with (refine wpList_append_str _ rfl _ _ rfl w.heap.size u5 lo (by simp [Act.eval]) HO7.out (.slice (some ⟨wr.heap.size, 0, none⟩) 1 1) [s.extract f k] (by simp [Act.eval]) HO8.out (by simp; omega) HZ7.out ?_; intro a3 c3 w3 ho3 hg3)
          have G3 := Lib.hid (G2.out.grown hg3 (fun q hq => (World.ownsRow.lt HO7.out q hq).1))
          rw [List.length_append, List.length_singleton] at ho3
          have HO3 := Lib.hid ho3
          clear hg3 ho3
          go_roundw
          case rel => exact ⟨k + 1, k + 1, lo ++ [s.extract f k], by omega, Nat.le_refl _, by go_num, by go_num, by simp; omega, HE.out, G3.out, HO3.out⟩
          case measure => simp [intOf]; omega
        · have y1 : ((s[k].toNat : Int) == (cn : Int)) = false := by simp; omega
          have HE := Lib.hid (hW.out.miss hf hlt (fun e => hc (e.trans HCN.out)))
          clear hW hc
          go_wp2_with fail
          go_roundw
          case rel => exact ⟨k + 1, f, lo, by omega, by omega, by go_num, rfl, by omega, HE.out, hG.out, hO.out⟩
          case measure => simp [intOf]; omega
      · have q1 : ¬ (k : Int) ≤ (s.size : Int) := by omega
        have HE := Lib.hid (hW.out.stop (by omega))
        clear hW
        go_wp2_with fail
        go_ret
        exact ⟨lo, _, rfl, HE.out, hO.out, hG.out⟩

/-! ### sorts -/
def sortS : Srt → ByteArray
  | .target => ⟨#[116, 97, 114, 103, 101, 116]⟩
  | .group => ⟨#[103, 114, 111, 117, 112]⟩
  | .version => ⟨#[118, 101, 114, 115, 105, 111, 110]⟩
  | .number => ⟨#[110, 117, 109, 98, 101, 114]⟩
  | .mode => ⟨#[109, 111, 100, 101]⟩
  | .authors => ⟨#[97, 117, 116, 104, 111, 114, 115]⟩
  | .pub => ⟨#[112, 117, 98, 108, 105, 99]⟩
set_option maxRecDepth 100000 in
set_option maxHeartbeats 4000000 in
theorem refSortsC (k : Fin 5) (w : World) : Calls Tryz.prog 54 #[.int .i64 ((k.val : Int) + 1)] w fun e w' => ∃ v, e = .returned v ∧ OwnS w' w.heap.size v ((srts k).map sortS) ∧ Gr w w' := by
  have : k = 0 ∨ k = 1 ∨ k = 2 ∨ k = 3 ∨ k = 4 := by omega
  rcases this with rfl | rfl | rfl | rfl | rfl
  · show Calls Tryz.prog 54 #[.int .i64 1] w _
    go_enter Tryz.func54, Tryz.ntmps54
    go_wp2_with fail
    go_ret
    exact ⟨_, rfl, OwnS.made (l := (srts 0).map sortS) (heap_alloc_new w _) (Nat.le_refl _) (by decide), (Gr.refl w).alloc _⟩
  · show Calls Tryz.prog 54 #[.int .i64 2] w _
    go_enter Tryz.func54, Tryz.ntmps54
    go_wp2_with fail
    go_ret
    exact ⟨_, rfl, OwnS.made (l := (srts 1).map sortS) (heap_alloc_new w _) (Nat.le_refl _) (by decide), (Gr.refl w).alloc _⟩
  · show Calls Tryz.prog 54 #[.int .i64 3] w _
    go_enter Tryz.func54, Tryz.ntmps54
    go_wp2_with fail
    go_ret
    exact ⟨_, rfl, OwnS.made (l := (srts 2).map sortS) (heap_alloc_new w _) (Nat.le_refl _) (by decide), (Gr.refl w).alloc _⟩
  · show Calls Tryz.prog 54 #[.int .i64 4] w _
    go_enter Tryz.func54, Tryz.ntmps54
    go_wp2_with fail
    go_ret
    exact ⟨_, rfl, OwnS.made (l := (srts 3).map sortS) (heap_alloc_new w _) (Nat.le_refl _) (by decide), (Gr.refl w).alloc _⟩
  · show Calls Tryz.prog 54 #[.int .i64 5] w _
    go_enter Tryz.func54, Tryz.ntmps54
    go_wp2_with fail
    go_ret
    exact ⟨_, rfl, OwnS.made (l := (srts 4).map sortS) (heap_alloc_new w _) (Nat.le_refl _) (by decide), (Gr.refl w).alloc _⟩
end Go.Proofs.YtcdcmohccbhchaaGreatDoor

namespace Go.Proofs.YtcdcmohccbhchaaGreatDoor
open Go.RowKit

/-! ### Value -/
theorem a64_at : ∀ i : Fin 64, (⟨#[65, 66, 67, 68, 69, 70, 71, 72, 73, 74, 75, 76, 77, 78, 79, 80, 81, 82, 83, 84, 85, 86, 87, 88, 89, 90, 97, 98, 99, 100, 101, 102, 103, 104, 105, 106, 107, 108, 109, 110, 111, 112, 113, 114, 115, 116, 117, 118, 119, 120, 121, 122, 48, 49, 50, 51, 52, 53, 54, 55, 56, 57, 43, 47]⟩ : ByteArray)[i.val]'(i.isLt) = b64C i.val := by decide +kernel
theorem run_a64 (q : Nat) (hq : q < 64) (w : World) : (Instr.index 9 (.string ⟨#[65, 66, 67, 68, 69, 70, 71, 72, 73, 74, 75, 76, 77, 78, 79, 80, 81, 82, 83, 84, 85, 86, 87, 88, 89, 90, 97, 98, 99, 100, 101, 102, 103, 104, 105, 106, 107, 108, 109, 110, 111, 112, 113, 114, 115, 116, 117, 118, 119, 120, 121, 122, 48, 49, 50, 51, 52, 53, 54, 55, 56, 57, 43, 47]⟩) (.int .i64 (q : Int))).run Tryz.prog w = .ok (.int .u8 ((b64C q).toNat : Int)) w := by
  rw [run_index_string w 9 _ .i64 _ Tryz.underlying9, dif_pos (by constructor <;> (first | omega | (show (q : Int) < 64; omega)))]
  have h := a64_at ⟨q, hq⟩
  simp only [Int.toNat_natCast]
  rw [h]
theorem b64_minus : ∀ c : UInt8, b64B c = false → b64V c = -1 := all_u8 (by decide +kernel)
theorem b64_none {c : UInt8} (h : ∀ j, j < 64 → b64C j ≠ c) : b64V c = -1 := by
  refine b64_minus c ?_
  cases hb : b64B c with
  | false => rfl
  | true =>
    obtain ⟨h1, h2⟩ := b64_back c hb
    exact absurd h1 (h _ h2)
set_option maxRecDepth 100000 in
set_option maxHeartbeats 2000000 in
theorem refValC (c : UInt8) (w : World) : Calls Tryz.prog 135 #[.int .u8 (c.toNat : Int)] w fun e w' => e = .returned (.int .i64 (b64V c)) ∧ w = w' := by
  have HY : Hid (∀ k, k < 64 → (b64C k).toNat = c.toNat → b64V c = (k : Int)) := fun k hk h => by rw [← UInt8.toNat_inj.1 h]; exact (b64C_at hk).1
  have HN : Hid ((∀ j, j < 64 → (b64C j).toNat ≠ c.toNat) → b64V c = -1) := fun h => b64_none fun j hj e => h j hj (by rw [e])
  generalize b64V c = v at *
  generalize c.toNat = cn at *
  go_enter Tryz.func135, Tryz.ntmps135
  go_wp2_with fail
  go_loop [3, 4, 5, 6, 7, 8, 9, 10, 11] (fun i _ _ _ _ _ _ _ _ => ∃ k : Nat, k ≤ 64 ∧ i = .int .i64 k ∧ Hid (∀ j, j < k → (b64C j).toNat ≠ cn)) (fun i _ _ _ _ _ _ _ _ => 64 - (intOf i).toNat)
  case atStart => exact ⟨0, Nat.zero_le _, rfl, fun j h => absurd h (Nat.not_lt_zero _)⟩
  case round =>
    obtain ⟨k, hk, rfl, hall⟩ := hrel
    by_cases hlt : k < 64
    · have q1 : (k : Int) < 64 := by omega
      have q2 : (0 : Int) ≤ (k : Int) := by omega
      have hix := run_a64 k hlt
      by_cases he : (b64C k).toNat = cn
      · have HE := Lib.hid (HY.out k hlt he)
        have y1 : (((b64C k).toNat : Int) == (cn : Int)) = true := by simp [he]
        clear he hall HN HY
        generalize (b64C k).toNat = d at *
        go_wp2_with fail
        go_ret
        exact ⟨ret_int HE.out.symm, rfl⟩
      · have HE : Hid (∀ j, j < k + 1 → (b64C j).toNat ≠ cn) := fun j hj => by
          by_cases e : j = k
          · subst e; exact he
          · exact hall.out j (by omega)
        have y1 : (((b64C k).toNat : Int) == (cn : Int)) = false := by simp; omega
        clear he hall HN HY
        generalize (b64C k).toNat = d at *
        go_wp2_with fail
        go_round
        case rel => exact ⟨k + 1, by omega, by go_num, HE.out⟩
        case measure => simp [intOf]; omega
    · have q1 : ¬ (k : Int) < 64 := by omega
      have HE := Lib.hid (HN.out (fun j hj => hall.out j (by omega)))
      clear hall HN HY
      go_wp2_with fail
      go_ret
      exact ⟨ret_int HE.out.symm, rfl⟩

/-! ### inPlace -/
theorem getD_get (s : ByteArray) (k : Nat) (h : k < s.size) : (bl s).getD k 0 = s[k] := by
  rw [List.getD_eq_getElem?_getD, List.getElem?_eq_getElem (by rw [bl_length]; exact h)]; rfl
theorem eq61 (c : UInt8) : c = 61 ↔ c.toNat = 61 := ⟨fun h => by rw [h]; rfl, fun h => UInt8.toNat_inj.1 h⟩
theorem inpl_iff (s : ByteArray) (i : Nat) (h : i < s.size) : (datN (bl s) ≤ i) ↔ (s.size % 4 = 0 ∧ s[i].toNat = 61 ∧ (i = s.size - 1 ∨ (i + 2 = s.size ∧ (s[s.size - 1]'(by omega)).toNat = 61))) := by
  have hl := bl_length s
  have hg1 := getD_get s (s.size - 1) (by omega)
  unfold datN
  rw [hl, hg1]
  constructor
  · intro hd
    split at hd
    · omega
    · rename_i hn
      have h4 : s.size % 4 = 0 := Decidable.byContradiction fun e => hn (.inr (.inl e))
      have h1 : (s[s.size - 1]'(by omega)) = 61 := Decidable.byContradiction fun e => hn (.inr (.inr e))
      have h1' := (eq61 _).1 h1
      have hg2 := getD_get s (s.size - 2) (by omega)
      rw [hg2] at hd
      by_cases hi : i = s.size - 1
      · subst hi
        exact ⟨h4, h1', .inl rfl⟩
      · split at hd
        · rename_i h2
          have h2' := (eq61 _).1 h2
          obtain rfl : i = s.size - 2 := by omega
          exact ⟨h4, h2', .inr ⟨by omega, h1'⟩⟩
        · omega
  · rintro ⟨h4, hi, hp⟩
    rcases hp with hp | ⟨hp, hl1⟩
    · subst hp
      rw [if_neg (by rintro (q | q | q); omega; omega; exact q ((eq61 _).2 hi))]
      split <;> omega
    · obtain rfl : i = s.size - 2 := by omega
      have hg2 := getD_get s (s.size - 2) (by omega)
      rw [if_neg (by rintro (q | q | q); omega; omega; exact q ((eq61 _).2 hl1)), hg2, if_pos ((eq61 _).2 hi)]
      omega
set_option maxRecDepth 100000 in
set_option maxHeartbeats 2000000 in
theorem refInC (s : ByteArray) (i : Nat) (h : i < s.size) (hs : s.size ≤ 1100) (w : World) : Calls Tryz.prog 136 #[.string s, .int .i64 (i : Int)] w fun e w' => e = .returned (.bool (decide (datN (bl s) ≤ i))) ∧ w = w' := by
  have HI := Lib.hid (inpl_iff s i h)
  have hlast : s.size - 1 < s.size := by omega
  generalize datN (bl s) = d at *
  have p0 : (0 : Int) ≤ (i : Int) := by omega
  have p1 : (i : Int) < (s.size : Int) := by omega
  obtain ⟨r, hr, hrm⟩ : ∃ r : Nat, (s.size : Int) % 4 = (r : Int) ∧ s.size % 4 = r := ⟨s.size % 4, by omega, rfl⟩
  have e1 : (0 : Int) ≤ (s.size : Int) - 1 := by omega
  have e2 : (s.size : Int) - 1 < (s.size : Int) := by omega
  have e3 : ((s.size : Int) - 1).toNat = s.size - 1 := by omega
  rw [hrm] at HI
  by_cases h4 : r = 0
  · subst h4
    by_cases hi : s[i].toNat = 61
    · have y1 : ((s[i].toNat : Int) == 61) = true := by simp [hi]
      have y1' : ((s[i].toNat : Int) != 61) = false := by simp [hi]
      by_cases h1 : i = s.size - 1
      · have y2 : ((i : Int) == (s.size : Int) - 1) = true := by simp; omega
        have HE : Hid (decide (d ≤ i) = true) := decide_eq_true (HI.out.2 ⟨rfl, hi, .inl h1⟩)
        generalize decide (d ≤ i) = b at *
        clear HI hi h1 hrm
        go_enter Tryz.func136, Tryz.ntmps136
        go_wp2_with fail
        go_ret
        exact ⟨ret_bool HE.out.symm, rfl⟩
      · have y2 : ((i : Int) == (s.size : Int) - 1) = false := by simp; omega
        by_cases h2 : i + 2 = s.size
        · have y3 : ((i : Int) == (s.size : Int) - 2) = true := by simp; omega
          by_cases h3 : (s[s.size - 1]'hlast).toNat = 61
          · have y4 : (((s[s.size - 1]'hlast).toNat : Int) == 61) = true := by simp [h3]
            have HE : Hid (decide (d ≤ i) = true) := decide_eq_true (HI.out.2 ⟨rfl, hi, .inr ⟨h2, h3⟩⟩)
            generalize decide (d ≤ i) = b at *
            clear HI hi h1 h2 h3 hrm
            go_enter Tryz.func136, Tryz.ntmps136
            go_wp2_with fail
            go_ret
            exact ⟨ret_bool HE.out.symm, rfl⟩
          · have y4 : (((s[s.size - 1]'hlast).toNat : Int) == 61) = false := by simp; omega
            have HE : Hid (decide (d ≤ i) = false) := decide_eq_false (fun q => by
              obtain ⟨_, _, q | q⟩ := HI.out.1 q
              · exact h1 q
              · exact h3 q.2)
            generalize decide (d ≤ i) = b at *
            clear HI hi h1 h2 h3 hrm
            go_enter Tryz.func136, Tryz.ntmps136
            go_wp2_with fail
            go_ret
            exact ⟨ret_bool HE.out.symm, rfl⟩
        · have y3 : ((i : Int) == (s.size : Int) - 2) = false := by simp; omega
          have HE : Hid (decide (d ≤ i) = false) := decide_eq_false (fun q => by
            obtain ⟨_, _, q | q⟩ := HI.out.1 q
            · exact h1 q
            · exact h2 q.1)
          generalize decide (d ≤ i) = b at *
          clear HI hi h1 h2 hrm
          go_enter Tryz.func136, Tryz.ntmps136
          go_wp2_with fail
          go_ret
          exact ⟨ret_bool HE.out.symm, rfl⟩
    · have y1 : ((s[i].toNat : Int) == 61) = false := by simp; omega
      have y1' : ((s[i].toNat : Int) != 61) = true := by simp; omega
      have HE : Hid (decide (d ≤ i) = false) := decide_eq_false (fun q => hi (HI.out.1 q).2.1)
      generalize decide (d ≤ i) = b at *
      clear HI hi hrm
      go_enter Tryz.func136, Tryz.ntmps136
      go_wp2_with fail
      go_ret
      exact ⟨ret_bool HE.out.symm, rfl⟩
  · have y1 : ((r : Int) == 0) = false := by simp; omega
    have y1' : ((r : Int) != 0) = true := by simp; omega
    have HE : Hid (decide (d ≤ i) = false) := decide_eq_false (fun q => h4 (HI.out.1 q).1)
    generalize decide (d ≤ i) = b at *
    clear HI hrm
    go_enter Tryz.func136, Tryz.ntmps136
    go_wp2_with fail
    go_ret
    exact ⟨ret_bool HE.out.symm, rfl⟩
end Go.Proofs.YtcdcmohccbhchaaGreatDoor

namespace Go.Proofs.YtcdcmohccbhchaaGreatDoor
open Go.RowKit

theorem grp_bit8 {B : List Bool} {vs : List Nat} {rm : List Bool} (h : grp 8 B = (vs, rm)) (b : Bool) :
    rm.length < 8 ∧ (rm.length = 7 → grp 8 (B ++ [b]) = (vs ++ [2 * valB rm + b.toNat], [])) ∧ (rm.length ≠ 7 → grp 8 (B ++ [b]) = (vs, rm ++ [b])) := by
  have hl := grp_left (k := 8) (by decide) B.length B (Nat.le_refl _)
  have ha := grp_app (k := 8) (by decide) B.length B [b] (Nat.le_refl _)
  rw [h] at hl ha
  refine ⟨hl, fun e => ?_, fun e => ?_⟩
  · rw [ha]
    have := grp_cons (k := 8) (by decide) (a := rm ++ [b]) (l := []) (by simp [e])
    rw [List.append_nil] at this
    rw [this, grp_short (by simp), valB_snoc]
  · rw [ha, grp_short (k := 8) (l := rm ++ [b]) (by simp only [List.length_append, List.length_cons, List.length_nil]; simp only at hl; omega)]
    simp
theorem grp_sizes8 {B : List Bool} {vs : List Nat} {rm : List Bool} (h : grp 8 B = (vs, rm)) : 8 * vs.length + rm.length = B.length ∧ rm.length < 8 ∧ valB rm < 128 := by
  have h1 := grp_len (k := 8) (by decide) B
  have hl := grp_left (k := 8) (by decide) B.length B (Nat.le_refl _)
  rw [h] at h1 hl
  have hv := valB_lt rm
  simp only at h1 hl
  exact ⟨h1, hl, Nat.lt_of_lt_of_le hv (Nat.le_trans (Nat.pow_le_pow_right (by decide) (show rm.length ≤ 7 by omega)) (by decide))⟩
/-- The bits of the characters ahead of k, and those of character k but the last m. -/
def up6 (l : Str) (k m : Nat) : List Bool := bits6 (l.take k) ++ bitsK (6 - m) ((b64V (l.getD k 0)).toNat / 2 ^ m)
theorem up6_start (l : Str) (k : Nat) : up6 l k 6 = bits6 (l.take k) := by unfold up6; simp [bitsK]
theorem up6_step (l : Str) (k m : Nat) (h : m < 6) : up6 l k m = up6 l k (m + 1) ++ [(b64V (l.getD k 0)).toNat / 2 ^ m % 2 == 1] := by
  unfold up6
  rw [show 6 - m = (6 - (m + 1)) + 1 by omega, bitsK, List.append_assoc, Nat.div_div_eq_div_mul, ← Nat.pow_succ]
theorem bits6_succ (l : Str) (k : Nat) (h : k < l.length) : bits6 (l.take (k + 1)) = bits6 (l.take k) ++ bitsK 6 (b64V (l.getD k 0)).toNat := by
  rw [List.take_succ_eq_append_getElem h, List.getD_eq_getElem?_getD, List.getElem?_eq_getElem h]; unfold bits6; rw [List.flatMap_append]; simp
theorem up6_end (l : Str) (k : Nat) (h : k < l.length) : up6 l k 0 = bits6 (l.take (k + 1)) := by
  rw [bits6_succ l k h]; unfold up6; simp
theorem up6_len (l : Str) (k m : Nat) (h : k ≤ l.length) (hm : m ≤ 6) : (up6 l k m).length ≤ 6 * k + 6 := by
  unfold up6; rw [List.length_append, bits6_len, bitsK_len, List.length_take]; omega
theorem and1i (q : Nat) (h : q < 64) : bits .and .i64 (q : Int) 1 = ((q % 2 : Nat) : Int) := by
  have : ∀ q : Fin 64, bits .and .i64 (q.val : Int) 1 = ((q.val % 2 : Nat) : Int) := by decide +kernel
  exact this ⟨q, h⟩
theorem takeWhile_stop {p : UInt8 → Bool} : ∀ (s : Str) (k : Nat) (h : k < s.length), p s[k] = false → (s.takeWhile p).length ≤ k
  | c :: s, 0, _, hp => by rw [List.takeWhile_cons, if_neg (by simpa using hp)]; simp
  | c :: s, k + 1, h, hp => by
    rw [List.takeWhile_cons]
    split
    · rw [List.length_cons]
      have := takeWhile_stop s k (by simpa using h) (by simpa using hp)
      omega
    · simp
theorem takeWhile_full {p : UInt8 → Bool} (s : Str) (h : ∀ j (hj : j < s.length), p s[j] = true) : (s.takeWhile p).length = s.length :=
  takeWhile_app_all (List.all_eq_true.2 fun c hc => by
    obtain ⟨j, hj, rfl⟩ := List.getElem_of_mem hc
    exact h j hj)
theorem dec_six {s : Str} {k : Nat} (hk : k < datN s) (hs : s.length ≤ 174764) (hb : b64B (s.getD k 0) = false) : decE s = 6 := by
  have hd := (datN_spec s).1
  have hbad : badB64 s < datN s := by
    unfold badB64
    have : ((s.take (datN s)).takeWhile b64B).length ≤ k := by
      refine takeWhile_stop _ k (by rw [List.length_take]; omega) ?_
      rw [List.getElem_take]
      rw [List.getD_eq_getElem?_getD, List.getElem?_eq_getElem (by omega)] at hb
      exact hb
    omega
  unfold decE
  rw [if_neg (by omega), if_pos hbad]
theorem dec_rest {s : Str} (hs : s.length ≤ 174764) (hall : ∀ j, j < datN s → b64B (s.getD j 0) = true) : decE s = if s.length % 4 ≠ 0 then 4 else if valB (decR s).2 ≠ 0 then 3 else 0 := by
  have hd := (datN_spec s).1
  have hbad : badB64 s = datN s := by
    unfold badB64
    rw [takeWhile_full _ (fun j hj => by
      rw [List.length_take] at hj
      rw [List.getElem_take]
      have := hall j (by omega)
      rw [List.getD_eq_getElem?_getD, List.getElem?_eq_getElem (by omega)] at this
      exact this), List.length_take]
    omega
  unfold decE
  rw [if_neg (by omega), if_neg (by omega)]
/-- What Decode leaves. -/
def DecRPost (s : ByteArray) (w : World) (e : Ending) (w' : World) : Prop :=
  ∃ v a, e = .returned (.tuple #[v, a, .int .i64 (decE (bl s))]) ∧ (decE (bl s) = 0 → OwnU w' w.heap.size v (decB (bl s))) ∧ Gr w w'
set_option maxRecDepth 100000 in
set_option maxHeartbeats 8000000 in
theorem refDecodeC (s : ByteArray) (w : World) (hs : s.size ≤ 1100) : Calls Tryz.prog 113 #[.string s] w (DecRPost s w) := by
  have hl := bl_length s
  have hd := (datN_spec (bl s)).1
  have HST := Lib.hid (up6_step (bl s))
  have HS0 := Lib.hid (up6_start (bl s))
  have HSE : Hid (∀ k, k < s.size → up6 (bl s) k 0 = bits6 ((bl s).take (k + 1))) := fun k hk => up6_end (bl s) k (by omega)
  have HU : Hid (∀ k m, k ≤ s.size → m ≤ 6 → (up6 (bl s) k m).length ≤ 6 * k + 6) := fun k m hk hm => up6_len (bl s) k m (by omega) hm
  have HGD := Lib.hid (getD_get s)
  have HIP : Hid (∀ k (h : k < s.size), datN (bl s) ≤ k → s[k] = 61) := fun k h hd => (eq61 _).2 ((inpl_iff s k h).1 hd).2.1
  have H6 : Hid (∀ k, k < datN (bl s) → b64B ((bl s).getD k 0) = false → decE (bl s) = 6) := fun k hk hb => dec_six hk (by omega) hb
  have HDR : Hid ((∀ j, j < datN (bl s) → b64B ((bl s).getD j 0) = true) → decE (bl s) = if s.size % 4 ≠ 0 then 4 else if valB (decR (bl s)).2 ≠ 0 then 3 else 0) := fun h => by
    have := dec_rest (s := bl s) (by omega) h
    rwa [hl] at this
  have HD0 : Hid (decR (bl s) = grp 8 (bits6 ((bl s).take (datN (bl s))))) := rfl
  have HDB : Hid (decB (bl s) = (decR (bl s)).1.map UInt8.ofNat) := rfl
  have HIN : Hid (∀ k (h : k < s.size) W, Calls Tryz.prog 136 #[.string s, .int .i64 (k : Int)] W fun e w' => e = .returned (.bool (decide (datN (bl s) ≤ k))) ∧ W = w') := fun k h W => refInC s k h hs W
  have HVA := Lib.hid refValC
  have HPS : Hid (∀ v a er W', decE (bl s) = er → (er = 0 → OwnU W' w.heap.size v (decB (bl s))) → Gr w W' → DecRPost s w (.returned (.tuple #[v, a, .int .i64 er])) W') := fun v a er W' he ho hg => ⟨v, a, by rw [he], fun h => ho (by rw [← he]; exact h), hg⟩
  have i1 : ¬ 174764 < (s.size : Int) := by omega
  have hds : datN (bl s) ≤ s.size := by omega
  generalize hDN : datN (bl s) = d at *
  generalize hDE : decE (bl s) = de at *
  generalize hDR : decR (bl s) = dr at *
  generalize hDB : decB (bl s) = db at *
  clear hDN hDE hDR hDB hd hl
  go_enter Tryz.func113, Tryz.ntmps113
  go_wp2_with fail
  go_loopw [5, 6, 7, 8, 9, 10, 11, 15, 16, 17, 18, 19, 20, 21, 22, 23, 24, 25, 26, 27, 28, 29, 30, 32, 33, 34, 35, 36, 37, 38, 39, 40, 41, 42, 43, 44, 45, 46, 47, 48, 49, 50, 51, 52] (fun o v hv la i _ _ _ _ _ _ _ _ _ _ _ _ _ _ _ _ _ _ _ _ _ _ _ _ _ _ _ _ _ _ _ _ _ _ _ _ _ _ _ wr => ∃ (k : Nat) (z : Int) (vs : List Nat) (rm : List Bool), k ≤ s.size ∧ i = .int .i64 k ∧ la = .int .i64 z ∧ v = .int .i64 ((valB rm : Nat) : Int) ∧ hv = .int .i64 ((rm.length : Nat) : Int) ∧ Hid (grp 8 (bits6 ((bl s).take (min k d))) = (vs, rm)) ∧ Hid (∀ j, j < k → j < d → b64B ((bl s).getD j 0) = true) ∧ Hid (Gr w wr) ∧ Hid (OwnU wr w.heap.size o (vs.map UInt8.ofNat))) (fun _ _ _ _ i _ _ _ _ _ _ _ _ _ _ _ _ _ _ _ _ _ _ _ _ _ _ _ _ _ _ _ _ _ _ _ _ _ _ _ _ _ _ _ _ => s.size - (intOf i).toNat)
  case atStart => exact ⟨0, 0, [], [], Nat.zero_le _, rfl, rfl, rfl, rfl, by show _ = _; simp [bits6]; rfl, fun j h => absurd h (Nat.not_lt_zero _), Gr.refl _, OwnU.nil _ _⟩
  case round =>
    obtain ⟨k, z, vs, rm, hk, rfl, rfl, rfl, rfl, hgr, hall, hG, hO⟩ := hrel
    by_cases hlt : k < s.size
    · have q1 : (k : Int) < (s.size : Int) := by omega
      have q2 : (0 : Int) ≤ (k : Int) := by omega
      have HV := Lib.hid (HVA.out s[k])
      have hgd := HGD.out k hlt
      by_cases hkd : k < d
      · cases hb : b64B s[k] with
        | false =>
          have hv := b64_minus _ hb
          rw [hv] at HV
          have HE := Lib.hid (H6.out k hkd (by rw [hgd]; exact hb))
          have HI := Lib.hid (HIN.out k hlt)
          rw [decide_eq_false (by omega : ¬ d ≤ k)] at HI
          clear hgd hv hb hall hgr
          go_wp2_with (first | (go_at_call 135; refine (HV.out _).mono ?_; rintro e w' ⟨rfl, rfl⟩) | (go_at_call 136; refine (HI.out _).mono ?_; rintro e w' ⟨rfl, rfl⟩))
          go_ret3
          exact HPS.out _ _ _ _ HE.out (fun h => by cases h) hG.out
        | true =>
          have hmk : min k d = k := by omega
          rw [hmk, ← HS0.out] at hgr
          have HALL : Hid (∀ j, j < k + 1 → j < d → b64B ((bl s).getD j 0) = true) := fun j hj hd => by
            by_cases e : j = k
            · rw [e, hgd]; exact hb
            · exact hall.out j (by omega) hd
          have HX := Lib.hid (HST.out k)
          have HEND := Lib.hid (HSE.out k hlt)
          have HMIN : Hid (min (k + 1) d = k + 1) := by show _ = _; omega
          have HLN : Hid (∀ m, m ≤ 6 → (up6 (bl s) k m).length ≤ 6 * k + 6) := fun m hm => HU.out k m hk hm
          rw [hgd] at HX
          have hbv := (b64_back s[k] hb).2
          have hbz : (0 : Int) ≤ b64V s[k] := by unfold b64B at hb; simpa using hb
          obtain ⟨x, hx, hx0⟩ : ∃ x : Nat, b64V s[k] = (x : Int) ∧ (b64V s[k]).toNat = x := ⟨(b64V s[k]).toNat, by omega, rfl⟩
          rw [hx0] at HX hbv
          rw [hx] at HV
          have x0 : ¬ (x : Int) < 0 := by omega
          have x1 : (0 : Int) ≤ (x : Int) := by omega
          clear hgd hb hall hmk hx hx0 hbz HU HST HSE HS0 H6 HIP HIN HGD
          go_wp2_with (go_at_call 135; refine (HV.out _).mono ?_; rintro e w' ⟨rfl, rfl⟩)
          generalize wr = wo at *
          go_loopw [5, 6, 7, 11, 33, 34, 35, 36, 37, 38, 39, 40, 41, 42, 43, 44, 45, 46, 47, 48, 49, 50, 51, 52] (fun o v hv i _ _ _ _ _ _ _ _ _ _ _ _ _ _ _ _ _ _ _ _ wr => ∃ (m : Nat) (z : Int) (vs : List Nat) (rm : List Bool), m ≤ 6 ∧ z = (m : Int) - 1 ∧ i = .int .i64 z ∧ v = .int .i64 ((valB rm : Nat) : Int) ∧ hv = .int .i64 ((rm.length : Nat) : Int) ∧ Hid (grp 8 (up6 (bl s) k m) = (vs, rm)) ∧ Hid (Gr w wr) ∧ Hid (OwnU wr w.heap.size o (vs.map UInt8.ofNat))) (fun _ _ _ i _ _ _ _ _ _ _ _ _ _ _ _ _ _ _ _ _ _ _ _ _ => (intOf i + 1).toNat)
          case atStart => exact ⟨6, 5, vs, rm, Nat.le_refl _, rfl, rfl, rfl, rfl, hgr.out, hG.out, hO.out⟩
          case round =>
            clear hgr hG hO
            obtain ⟨m, z, ts, rs, hm, hz, rfl, rfl, rfl, hgr, hG, hO⟩ := hrel
            by_cases hm0 : m = 0
            · obtain rfl : z = -1 := by omega
              subst hm0
              rw [HEND.out, ← HMIN.out] at hgr
              clear hz hm
              go_wp2_with fail
              go_roundw
              case rel => exact ⟨k + 1, k, ts, rs, by omega, by go_num, rfl, rfl, rfl, hgr.out, HALL.out, hG.out, hO.out⟩
              case measure => simp [intOf]; omega
            · obtain ⟨j, rfl⟩ : ∃ j, m = j + 1 := ⟨m - 1, by omega⟩
              obtain rfl : z = (j : Int) := by omega
              have hj : j < 6 := by omega
              have p0 : (0 : Int) ≤ (j : Int) := by omega
              obtain ⟨g1, g2, g3⟩ := grp_bit8 hgr.out (x / 2 ^ j % 2 == 1)
              obtain ⟨s1, s2, s4⟩ := grp_sizes8 hgr.out
              have s5 := HLN.out (j + 1) (by omega)
              rw [← HX.out j hj] at g2 g3
              have hq : x / 2 ^ j < 64 := Nat.lt_of_le_of_lt (Nat.div_le_self _ _) hbv
              have hand := and1i _ hq
              have hbit : ((x / 2 ^ j % 2 == 1) : Bool).toNat = x / 2 ^ j % 2 := by
                rcases Nat.mod_two_eq_zero_or_one (x / 2 ^ j) with e | e <;> rw [e] <;> rfl
              rw [hbit] at g2
              have hsn := valB_snoc rs (x / 2 ^ j % 2 == 1)
              rw [hbit] at hsn
              obtain ⟨q, hqd⟩ : ∃ q, x / 2 ^ j = q := ⟨_, rfl⟩
              have hdiv : (x : Int) / 2 ^ j = (q : Int) := by rw [← hqd]; simp
              rw [hqd] at hand g2 g3 hsn hq
              generalize hbb : (q % 2 == 1) = bb at *
              obtain ⟨cb, hcb, hc1⟩ : ∃ cb, q % 2 = cb ∧ cb ≤ 1 := ⟨_, rfl, by omega⟩
              rw [hcb] at hand g2 hsn
              have HSN := Lib.hid hsn
              have G2 := Lib.hid g2
              have G3 := Lib.hid g3
              have hrl : (rs ++ [bb]).length = rs.length + 1 := by simp
              have HRL := Lib.hid hrl
              have hvl : ts.length ≤ 2000 := by omega
              clear hqd hcb hbb g2 g3 hsn hrl hz hm hm0 hgr s1 s5
              generalize valB rs = V at *
              obtain ⟨u, hu, hu1⟩ : ∃ u : Nat, 2 * (V : Int) + (cb : Int) = (u : Int) ∧ 2 * V + cb = u := ⟨2 * V + cb, by omega, rfl⟩
              rw [hu1] at HSN G2
              have hu256 : u < 256 := by omega
              by_cases h5 : rs.length = 7
              · have HG := Lib.hid (G2.out h5)
                have w8 : IntKind.u8.wrap (u : Int) = (u : Int) := by rw [IntKind.wrap_u8]; omega
                have w9 : (u : Int) % 256 = (u : Int) := by omega
                have e1 : cU (UInt8.ofNat u) = .int .u8 (u : Int) := by unfold cU; simp; omega
                have HO7 := Lib.hid (hO.out.gr ((Gr.refl wr).alloc (.cells #[.int .u8 (u : Int)] 5)))
                have HO8 : Hid (OwnU (wr.alloc (.cells #[.int .u8 (u : Int)] 5)) w.heap.size (.slice (some ⟨wr.heap.size, 0, none⟩) 1 1) [UInt8.ofNat u]) := by
                  rw [← e1]; exact OwnU.made (l := [UInt8.ofNat u]) (heap_alloc_new wr _) hG.out.size (by simp)
                have HZ7 : Hid (w.heap.size ≤ (wr.alloc (.cells #[.int .u8 (u : Int)] 5)).heap.size) := by show _ ≤ _; have := hG.out.size; simp; omega
                have HG7 := Lib.hid (hG.out.alloc (.cells #[.int .u8 (u : Int)] 5))
                have HMP : Hid (ts.map UInt8.ofNat ++ [UInt8.ofNat u] = (ts ++ [u]).map UInt8.ofNat) := by show _ = _; simp
                have HLM : Hid ((ts.map UInt8.ofNat).length = ts.length) := by show _ = _; simp
                rw [h5]
                clear G2 G3 hu1 HSN HRL h5 g1 s2 e1
                go_wp2_with (refine wpList_append_u8 _ rfl _ _ rfl w.heap.size u5 (ts.map UInt8.ofNat) (by simp [Act.eval]) HO7.out (.slice (some ⟨wr.heap.size, 0, none⟩) 1 1) [UInt8.ofNat u] (by simp [Act.eval]) HO8.out (ts.length + 1) (by rw [HLM.out]; rfl) (by omega) HZ7.out ?_; intro a3 c3 w3 ho3 hg3)
                have G3 := Lib.hid (HG7.out.grown hg3 (fun q hq => (World.ownsRow.lt HO7.out q hq).1))
                rw [HMP.out] at ho3
                have HO3 := Lib.hid ho3
                clear hg3 ho3
                go_roundw
                case rel => exact ⟨j, (j : Int) - 1, ts ++ [u], [], by omega, rfl, rfl, rfl, rfl, HG.out, G3.out, HO3.out⟩
                case measure => first | (simp [intOf]; done) | (simp [intOf]; omega)
              · have HG := Lib.hid (G3.out h5)
                have y1 : (((rs.length : Nat) : Int) + 1 == 8) = false := by simp; omega
                have hr6 : rs.length < 8 := g1
                clear G2 G3 hu1 s2 g1
                generalize hH : rs.length = H at *
                clear hH
                go_wp2_with fail
                go_roundw
                case rel => exact ⟨j, (j : Int) - 1, ts, rs ++ [bb], by omega, rfl, rfl, by rw [HSN.out], by rw [HRL.out]; go_num, HG.out, hG.out, hO.out⟩
                case measure => first | (simp [intOf]; done) | (simp [intOf]; omega)
      · have he : s[k] = 61 := HIP.out k hlt (by omega)
        have hv : b64V s[k] = -1 := by rw [he]; exact b64_minus 61 b64_pad
        rw [hv] at HV
        have HI := Lib.hid (HIN.out k hlt)
        rw [decide_eq_true (by omega : d ≤ k)] at HI
        have HM : Hid (min (k + 1) d = min k d) := by show _ = _; omega
        have HALL : Hid (∀ j, j < k + 1 → j < d → b64B ((bl s).getD j 0) = true) := fun j hj hd => hall.out j (by omega) hd
        rw [← HM.out] at hgr
        clear hgd hv he hall
        go_wp2_with (first | (go_at_call 135; refine (HV.out _).mono ?_; rintro e w' ⟨rfl, rfl⟩) | (go_at_call 136; refine (HI.out _).mono ?_; rintro e w' ⟨rfl, rfl⟩))
        go_roundw
        case rel => exact ⟨k + 1, z, vs, rm, by omega, by go_num, rfl, rfl, rfl, hgr.out, HALL.out, hG.out, hO.out⟩
        case measure => simp [intOf]; omega
    · have q1 : ¬ (k : Int) < (s.size : Int) := by omega
      have hmk : min k d = d := by omega
      rw [hmk, ← HD0.out] at hgr
      have HDE := HDR.out (fun j hj => hall.out j (by omega) hj)
      rw [hgr.out] at HDE HDB
      have HB := Lib.hid HDB.out
      simp only at HDE HB
      have HE := Lib.hid HDE
      obtain ⟨r, hr, hrm⟩ : ∃ r : Nat, (s.size : Int) % 4 = (r : Int) ∧ s.size % 4 = r := ⟨s.size % 4, by omega, rfl⟩
      rw [hrm] at HE
      clear HDE HDB hall hmk hgr HDR hrm HU HST HSE HS0 H6 HIP HIN HGD HVA
      generalize valB rm = V at *
      by_cases h4 : r = 0
      · subst h4
        by_cases hV : V = 0
        · subst hV
          go_wp2_with fail
          go_ret3
          exact HPS.out _ _ _ _ HE.out (fun _ => by rw [HB.out]; exact hO.out) hG.out
        · have y1 : ((V : Int) == 0) = false := by simp; omega
          have y2 : ((V : Int) != 0) = true := by simp; omega
          have HE3 : Hid (de = 3) := by show _ = _; rw [HE.out, if_neg (by simp), if_pos hV]
          go_wp2_with fail
          go_ret3
          exact HPS.out _ _ _ _ HE3.out (fun h => by cases h) hG.out
      · have y1 : ((r : Int) == 0) = false := by simp; omega
        have y2 : ((r : Int) != 0) = true := by simp; omega
        have HE4 : Hid (de = 4) := by show _ = _; rw [HE.out, if_pos h4]
        go_wp2_with fail
        go_ret3
        exact HPS.out _ _ _ _ HE4.out (fun h => by cases h) hG.out
end Go.Proofs.YtcdcmohccbhchaaGreatDoor

namespace Go.Proofs.YtcdcmohccbhchaaGreatDoor
open Go.RowKit

set_option maxRecDepth 100000 in
set_option maxHeartbeats 1000000 in
theorem digit11C (c : UInt8) (w : World) : Calls Tryz.prog 112 #[.int .u8 (c.toNat : Int)] w fun e w' => e = .returned (.int .i64 (hexV c)) ∧ w = w' := by
  have hb := c.toNat_lt
  have HV := Lib.hid (hexV_if c)
  generalize hexV c = v at *
  generalize c.toNat = n at *
  have hz : IntKind.i64.wrap (n : Int) = (n : Int) := by rw [IntKind.wrap_i64]; omega
  by_cases h1 : 48 ≤ n
  · by_cases h2 : n ≤ 57
    · have i1 : (48 : Int) ≤ (n : Int) := by omega
      have i2 : (n : Int) ≤ 57 := by omega
      go_enter Tryz.func112, Tryz.ntmps112
      go_wp2_with fail
      go_ret
      exact ⟨ret_int (by rw [HV.out, if_pos ⟨h1, h2⟩]), rfl⟩
    · have i1 : (48 : Int) ≤ (n : Int) := by omega
      have i2 : ¬ (n : Int) ≤ 57 := by omega
      by_cases h3 : 97 ≤ n
      · have i3 : (97 : Int) ≤ (n : Int) := by omega
        by_cases h4 : n ≤ 102
        · have i4 : (n : Int) ≤ 102 := by omega
          go_enter Tryz.func112, Tryz.ntmps112
          go_wp2_with fail
          go_ret
          exact ⟨ret_int (by rw [HV.out, if_neg (by omega), if_pos ⟨h3, h4⟩]; omega), rfl⟩
        · have i4 : ¬ (n : Int) ≤ 102 := by omega
          go_enter Tryz.func112, Tryz.ntmps112
          go_wp2_with fail
          go_ret
          exact ⟨ret_int (by rw [HV.out, if_neg (by omega), if_neg (by omega)]), rfl⟩
      · have i3 : ¬ (97 : Int) ≤ (n : Int) := by omega
        go_enter Tryz.func112, Tryz.ntmps112
        go_wp2_with fail
        go_ret
        exact ⟨ret_int (by rw [HV.out, if_neg (by omega), if_neg (by omega)]), rfl⟩
  · have i1 : ¬ (48 : Int) ≤ (n : Int) := by omega
    have i3 : ¬ (97 : Int) ≤ (n : Int) := by omega
    go_enter Tryz.func112, Tryz.ntmps112
    go_wp2_with fail
    go_ret
    exact ⟨ret_int (by rw [HV.out, if_neg (by omega), if_neg (by omega)]), rfl⟩
@[local go_sem ↓ high] theorem zeroRidV (w : World) : Sem.run Tryz.prog (zeroValue 67) w = .ok (.agg (bC zId).toArray) w := by kernel_rfl
/-- The digits among the first characters of a text. -/
def digD (s : Str) : Str := (s.drop 1).take 64
theorem digD_get (s : Str) (j : Nat) (h : j < 64) : (digD s).getD j 0 = s.getD (j + 1) 0 := by
  unfold digD
  rw [List.getD_eq_getElem?_getD, List.getElem?_take, if_pos h, List.getElem?_drop, List.getD_eq_getElem?_getD, Nat.add_comm]
set_option maxRecDepth 100000 in
set_option maxHeartbeats 2000000 in
theorem refMidPC (s : ByteArray) (w : World) (hs : s.size ≤ 1100) : Calls Tryz.prog 90 #[.string s] w (MidPost (bl s) w) := by
  have HG := Lib.hid (((Gr.refl w).alloc (.cells (bC zId).toArray 67)).alloc (.cells (bC zId).toArray 67))
  have HB0 := Lib.hid (heap_alloc2_old w (.cells (bC zId).toArray 67) (.cells (bC zId).toArray 67))
  have HB := Lib.hid (heap_alloc2_new w (.cells (bC zId).toArray 67) (.cells (bC zId).toArray 67))
  have hl := bl_length s
  have HMI := Lib.hid (mid_iff (bl s))
  rw [hl] at HMI
  have HGD : Hid (∀ k (hk : k < s.size), (bl s).getD k 0 = s[k]) := fun k hk => by
    rw [List.getD_eq_getElem?_getD, List.getElem?_eq_getElem (by rw [bl_length]; exact hk)]; rfl
  have HDG := Lib.hid (digD_get (bl s))
  have HBAD : Hid (midB (bl s) = false → ∀ W a er, er ≠ 0 → Gr w W → MidPost (bl s) w (.returned (.tuple #[.agg (bC zId).toArray, .int .i64 a, .int .i64 er])) W) := fun hm W a er he hg => ⟨a, er, by rw [mid_bad hm], by rw [hm]; exact ⟨fun h => absurd h he, fun h => by cases h⟩, hg⟩
  have HOK : Hid (midB (bl s) = true → ∀ W, Gr w W → MidPost (bl s) w (.returned (.tuple #[.agg ((digTo 32 (digD (bl s)) 64).map cU).toArray, .int .i64 0, .int .i64 0])) W) := fun hm W hg => by
    obtain ⟨h1, h2, h3⟩ := midB_iff hm
    have hln : (digD (bl s)).length = 2 * 32 := by unfold digD; rw [List.length_take, List.length_drop, h1]; rfl
    refine ⟨0, 0, ?_, by rw [hm]; simp, hg⟩
    have e : (digTo 32 (digD (bl s)) 64).map cU = bC (midV (bl s)) := by
      rw [show (64 : Nat) = 2 * 32 from rfl, digTo_all 32 _ hln]
      unfold midV
      rw [if_pos hm]
      unfold bC
      have e2 : (vecOf 32 (unhex (List.take 64 (List.drop 1 (bl s))))).toList = unhex (digD (bl s)) := vecOf_toList (unhex_len 32 _ hln)
      rw [e2]; rfl
    rw [e]
  have HD0 : Hid (digTo 32 (digD (bl s)) 0 = List.replicate 32 0) := rfl
  clear hl
  go_enter Tryz.func90, Tryz.ntmps90
  go_wp2_with fail
  go_loopw [7, 8, 9, 10, 11, 12, 13, 14, 15, 16, 17, 18, 19, 20, 21, 22, 23, 24, 25, 26, 29, 30, 31, 32, 33, 34, 36, 37, 38, 39, 40, 41, 42, 43, 44, 47, 48, 49, 50, 51, 52, 53, 54, 55, 56, 57, 58, 59] (fun i _ _ _ _ _ _ _ _ _ _ _ _ _ _ _ _ _ _ _ _ _ _ _ _ _ _ _ _ _ _ _ _ _ _ _ _ _ _ _ _ _ _ _ _ _ _ _ wr => ∃ k : Nat, k ≤ min s.size 71 ∧ i = .int .i64 k ∧ Hid (∀ j, j < k → fitB j ((bl s).getD j 0) = true) ∧ Hid (Gr w wr) ∧ Hid (wr.heap[w.heap.size]? = some (.cells (bC zId).toArray 67 (0, 0))) ∧ Hid (wr.heap[w.heap.size + 1]? = some (.cells ((digTo 32 (digD (bl s)) (min (k - 1) 64)).map cU).toArray 67 (0, 0)))) (fun i _ _ _ _ _ _ _ _ _ _ _ _ _ _ _ _ _ _ _ _ _ _ _ _ _ _ _ _ _ _ _ _ _ _ _ _ _ _ _ _ _ _ _ _ _ _ _ _ => 71 - (intOf i).toNat)
  case atStart => exact ⟨0, Nat.zero_le _, rfl, fun j h => absurd h (Nat.not_lt_zero _), HG.out, HB0.out, HB.out⟩
  case round =>
    obtain ⟨k, hk, rfl, hA, hG, hB0, hB⟩ := hrel
    have hr := hasRow_block hB0.out 0 32 (by rw [bC_length]; decide)
    have hf := freeRow_block hB0.out 0 32
    have hb0 := Lib.hid (sets_whole (cs := bC zId) hB0.out rfl)
    have hg0 := Lib.hid (hG.out.setsOwn (b := w.heap.size) (Nat.le_refl _) (bC zId) 0)
    have hl : ((digTo 32 (digD (bl s)) (min (k - 1) 64)).map cU).length = 32 := by rw [List.length_map, digTo_len]
    by_cases hlt : k < min s.size 71
    · have hks : k < s.size := by omega
      have hk1 : (k : Int) < 71 := by omega
      have hk2 : (0 : Int) ≤ (k : Int) := by omega
      have hk3 : (k : Int) < (s.size : Int) := by omega
      have hgd := HGD.out k hks
      have HMB : Hid (fitB k s[k] = false → midB (bl s) = false) := fun hf => by
        cases h : midB (bl s) with
        | false => rfl
        | true =>
          have := (HMI.out.1 h).2 k (by omega)
          rw [hgd, hf] at this; cases this
      have HA1 : Hid (fitB k s[k] = true → ∀ j, j < k + 1 → fitB j ((bl s).getD j 0) = true) := fun hf j hj => by
        by_cases e : j = k
        · rw [e, hgd]; exact hf
        · exact hA.out j (by omega)
      by_cases h0 : k = 0
      · subst h0
        have hfb : Hid (fitB 0 s[0] = (s[0] == 60)) := rfl
        by_cases hc : s[0].toNat = 60
        · have y1 : ((s[0].toNat : Int) == 60) = true := by simp [hc]
          have y2 : ((s[0].toNat : Int) != 60) = false := by simp [hc]
          have HE := Lib.hid (HA1.out (by rw [hfb.out, beq_iff_eq]; exact UInt8.toNat_inj.1 hc))
          clear hgd hA HA1 HMB hfb hc HBAD HOK
          go_wp2_with fail
          go_roundw
          case rel => exact ⟨1, by omega, rfl, HE.out, hG.out, hB0.out, hB.out⟩
          case measure => simp [intOf]
        · have y1 : ((s[0].toNat : Int) == 60) = false := by simp; omega
          have y2 : ((s[0].toNat : Int) != 60) = true := by simp; omega
          have HE := Lib.hid (HBAD.out (HMB.out (by rw [hfb.out, beq_eq_false_iff_ne]; intro e; exact hc (by rw [e]; rfl))))
          clear hgd hA HA1 HMB hfb hc HBAD HOK hB
          go_wp2_with fail
          refine bodyPost_ret (results_cell_tmp2 (p := 2) (u1 := 3) (u2 := 4) rfl _ _ w.heap.size _ _ _ _ rfl hb0.out Tryz.underlying67 rfl (by rw [List.size_toArray, bC_length]; kernel_rfl)) rfl ?_
          exact HE.out _ _ _ (by decide) hg0.out
      · have z0 : ((k : Int) == 0) = false := by simp; omega
        by_cases h64 : k ≤ 64
        · have z1 : (k : Int) ≤ 64 := by omega
          have hfb : Hid (fitB k s[k] = hexB s[k]) := by show _ = _; unfold fitB; rw [if_neg (by omega), if_pos (by omega)]
          have HI := Lib.hid (digit11C s[k])
          by_cases hv : hexV s[k] < 0
          · have HE := Lib.hid (HBAD.out (HMB.out (by rw [hfb.out, hexB_iff]; exact hv)))
            clear hgd hA HA1 HMB hfb HBAD HOK hB
            go_wp2_with (go_at_call 112; refine (HI.out _).mono ?_; rintro e w' ⟨rfl, rfl⟩)
            refine bodyPost_ret (results_cell_tmp2 (p := 2) (u1 := 3) (u2 := 4) rfl _ _ w.heap.size _ _ _ _ rfl hb0.out Tryz.underlying67 rfl (by rw [List.size_toArray, bC_length]; kernel_rfl)) rfl ?_
            exact HE.out _ _ _ (by decide) hg0.out
          · have hb1 : hexB s[k] = true := by
              cases hb : hexB s[k] with
              | true => rfl
              | false => exact absurd ((hexB_iff _).1 hb) hv
            have HE := Lib.hid (HA1.out (by rw [hfb.out]; exact hb1))
            obtain ⟨_, hv16, hvn⟩ := hex_back s[k] hb1
            obtain ⟨j, hkj⟩ : ∃ j, k = j + 1 := ⟨k - 1, by omega⟩
            have em1 : min (k - 1) 64 = j := by omega
            have em2 : min (k + 1 - 1) 64 = j + 1 := by omega
            have HEM2 := Lib.hid em2
            rw [em1] at hB hl
            have hdg := HDG.out j (by omega)
            rw [← hkj, hgd] at hdg
            have hD : Hid ((digTo 32 (digD (bl s)) (j + 1)).map cU = ((digTo 32 (digD (bl s)) j).map cU).set (j / 2) (cU ((digTo 32 (digD (bl s)) j).getD (j / 2) 0 <<< 4 ||| hexN s[k]))) := by
              show _ = _
              rw [digTo, map_putD, hdg]
            have hj : j / 2 < (digTo 32 (digD (bl s)) j).length := by rw [digTo_len]; omega
            have c0 : wr.cell? ⟨w.heap.size + 1, j / 2, none⟩ = some (.int .u8 (((digTo 32 (digD (bl s)) j).getD (j / 2) 0).toNat : Int)) := by
              rw [cell_block hB.out, List.getElem?_map, List.getElem?_eq_getElem hj, List.getD_eq_getElem?_getD, List.getElem?_eq_getElem hj]; rfl
            have f0 := free_block hB.out (j / 2)
            have hz1 := (Array.getElem?_eq_some_iff.1 hB.out).1
            have hor := add_u8 ((digTo 32 (digD (bl s)) j).getD (j / 2) 0) (hexN s[k]) (by rw [hvn]; exact hv16)
            generalize (digTo 32 (digD (bl s)) j).getD (j / 2) 0 = x at *
            obtain ⟨n, hn, hnn⟩ : ∃ n : Nat, hexV s[k] = (n : Int) ∧ (hexN s[k]).toNat = n := ⟨(hexV s[k]).toNat, by omega, hvn⟩
            rw [hnn] at hor
            rw [hn] at HI
            have hw : IntKind.u8.wrap (n : Int) = (n : Int) := by rw [IntKind.wrap_u8]; omega
            have hw9 : (n : Int) % 256 = (n : Int) := by omega
            have hn0 : ¬ (n : Int) < 0 := by omega
            have hjk : (k : Int) - 1 = (j : Int) := by omega
            have hj31 : j < 64 := by omega
            have hdiv : ((j : Int) / 2).toNat = j / 2 := by omega
            have q1 : (0 : Int) ≤ (j : Int) / 2 := by omega
            have q2 : (j : Int) / 2 < 32 := by omega
            have q3 : j / 2 < 32 := by omega
            generalize x <<< 4 ||| hexN s[k] = y at *
            have hw2 : IntKind.u8.wrap (IntKind.u8.wrap ((x.toNat : Int) * 16) + (n : Int)) = (y.toNat : Int) := by rw [IntKind.wrap_u8, IntKind.wrap_u8]; exact hor
            have HB1 := Lib.hid (heap_setCell_same wr (w.heap.size + 1) (j / 2) _ _ (cU y) hB.out)
            have HB2 := Lib.hid ((heap_setCell_other wr ⟨w.heap.size + 1, j / 2, none⟩ w.heap.size (cU y) (by show w.heap.size ≠ w.heap.size + 1; omega)).trans hB0.out)
            have HG1 := Lib.hid (hG.out.setOwn (b := w.heap.size + 1) (o := j / 2) (by omega) (cU y))
            clear hgd hl hv hv16 hvn hn hnn hb1 hA hkj HG HB0 HB hb0 hg0 hr hf em1 em2 hdg HMB HA1 HBAD HOK hj hB hB0 hfb
            go_wp2_with (go_at_call 112; refine (HI.out _).mono ?_; rintro e w' ⟨rfl, rfl⟩)
            go_roundw
            case rel => exact ⟨k + 1, by omega, by go_num, HE.out, HG1.out, HB2.out, by show _ = _; rw [HEM2.out, hD.out]; simpa [cU] using HB1.out⟩
            case measure => simp [intOf]; omega
        · have z1 : ¬ (k : Int) ≤ 64 := by omega
          obtain ⟨q, hkq⟩ : ∃ q, k = q + 65 := ⟨k - 65, by omega⟩
          have hq6 : q < 6 := by omega
          have hfb : Hid (fitB k s[k] = (s[k] == midTail.getD q 0)) := by show _ = _; unfold fitB; rw [if_neg (by omega), if_neg (by omega), show k - 65 = q by omega]
          have HEM : Hid (min (k + 1 - 1) 64 = min (k - 1) 64) := by show _ = _; omega
          have ht := run_tail q hq6
          have hqk : (k : Int) - 65 = (q : Int) := by omega
          have hqk3 : IntKind.i64.wrap ((k : Int) - 65) = (q : Int) := by rw [IntKind.wrap_i64]; omega
          have hqk4 : IntKind.i64.wrap (q : Int) = (q : Int) := by rw [IntKind.wrap_i64]; omega
          clear hkq
          by_cases hc : s[k].toNat = (midTail.getD q 0).toNat
          · have HE := Lib.hid (HA1.out (by rw [hfb.out, beq_iff_eq]; exact UInt8.toNat_inj.1 hc))
            have y1 : ((s[k].toNat : Int) == ((midTail.getD q 0).toNat : Int)) = true := by simp [hc]
            have y2 : ((s[k].toNat : Int) != ((midTail.getD q 0).toNat : Int)) = false := by simp [hc]
            rw [← HEM.out] at hB
            clear hgd hA HA1 HMB hfb hc HBAD HOK hl
            generalize (midTail.getD q 0).toNat = tq at *
            go_wp2_with fail
            go_quiet (fail)
            go_wp2_with fail
            go_roundw
            case rel => exact ⟨k + 1, by omega, by go_num, HE.out, hG.out.drewN _, hB0.out, hB.out⟩
            case measure => simp [intOf]; omega
          · have HE := Lib.hid (HBAD.out (HMB.out (by rw [hfb.out, beq_eq_false_iff_ne]; intro e; exact hc (by rw [e]))))
            have y1 : ((s[k].toNat : Int) == ((midTail.getD q 0).toNat : Int)) = false := by rw [beq_eq_false_iff_ne]; omega
            have y2 : ((s[k].toNat : Int) != ((midTail.getD q 0).toNat : Int)) = true := by rw [bne_iff_ne]; omega
            clear hgd hA HA1 HMB hfb hc HBAD HOK hl hB
            generalize (midTail.getD q 0).toNat = tq at *
            go_wp2_with fail
            go_quiet (fail)
            have hbU : (wr.drewN nq).heap[w.heap.size]? = some (.cells (bC zId).toArray 67 (0, 0)) := hB0.out
            have hgU := hG.out.drewN nq
            clear hr hf hb0 hg0 hB0
            generalize wr.drewN nq = U at *
            have hr := hasRow_block hbU 0 32 (by rw [bC_length]; decide)
            have hf := freeRow_block hbU 0 32
            have hb0 := Lib.hid (sets_whole (cs := bC zId) hbU rfl)
            have hg0 := Lib.hid (hgU.setsOwn (b := w.heap.size) (Nat.le_refl _) (bC zId) 0)
            clear hbU hgU
            go_wp2_with fail
            refine bodyPost_ret (results_cell_tmp2 (p := 2) (u1 := 3) (u2 := 4) rfl _ _ w.heap.size _ _ _ _ rfl hb0.out Tryz.underlying67 rfl (by rw [List.size_toArray, bC_length]; kernel_rfl)) rfl ?_
            exact HE.out _ _ _ (by decide) hg0.out
    · have hend : ((k : Int) < (s.size : Int) ∧ ¬ (k : Int) < 71) ∨ ¬ (k : Int) < (s.size : Int) := by omega
      have HMBF : Hid (s.size ≠ 71 → midB (bl s) = false) := fun h => by
        cases hm : midB (bl s) with
        | false => rfl
        | true => exact absurd (HMI.out.1 hm).1 h
      by_cases h71 : s.size = 71
      · have hm := HMI.out.2 ⟨h71, fun j hj => hA.out j (by omega)⟩
        have hke : k = 71 := by omega
        have hkm : min (k - 1) 64 = 64 := by omega
        rw [hkm] at hB hl
        have HE := Lib.hid (HOK.out hm)
        have i1 : ¬ (k : Int) < (s.size : Int) := by omega
        have i2 : ¬ (s.size : Int) < 71 := by omega
        have i3 : ¬ 71 < (s.size : Int) := by omega
        have hr1 := hasRow_block hB.out 0 32 (by rw [hl]; decide)
        have hq := (rowAt_block hB.out 0 32 (by rw [hl]; decide)).trans (rowOf_all _ _ hl)
        have h1' : oneB ((digTo 32 (digD (bl s)) 64).map cU) = true := List.all_eq_true.2 fun v hv => by obtain ⟨b, _, rfl⟩ := List.mem_map.1 hv; rfl
        have hb' := Lib.hid (sets_whole (cs := (digTo 32 (digD (bl s)) 64).map cU) hB0.out (by rw [hl, bC_length]))
        have hg' := Lib.hid (hG.out.setsOwn (b := w.heap.size) (Nat.le_refl _) ((digTo 32 (digD (bl s)) 64).map cU) 0)
        clear hA hB hB0 hlt hk HG HB HB0 hG hend HMBF h71 hm hke hkm HMI HBAD HOK
        generalize (digTo 32 (digD (bl s)) 64).map cU = cs at *
        go_wp2_with fail
        refine bodyPost_ret (results_cell_tmp2 (p := 2) (u1 := 3) (u2 := 4) rfl _ _ w.heap.size _ _ _ _ rfl hb'.out Tryz.underlying67 rfl (by rw [List.size_toArray, hl]; kernel_rfl)) rfl ?_
        exact HE.out _ hg'.out
      · have HE := Lib.hid (HBAD.out (HMBF.out h71))
        by_cases hsh : s.size < 71
        · have i1 : ¬ (k : Int) < (s.size : Int) := by omega
          have i2 : (s.size : Int) < 71 := by omega
          clear hA hB hlt hk hend HMBF h71 HMI HBAD HOK hl
          go_wp2_with fail
          refine bodyPost_ret (results_cell_tmp2 (p := 2) (u1 := 3) (u2 := 4) rfl _ _ w.heap.size _ _ _ _ rfl hb0.out Tryz.underlying67 rfl (by rw [List.size_toArray, bC_length]; kernel_rfl)) rfl ?_
          exact HE.out _ _ _ (by decide) hg0.out
        · have i1 : (k : Int) < (s.size : Int) := by omega
          have i0 : ¬ (k : Int) < 71 := by omega
          have i2 : ¬ (s.size : Int) < 71 := by omega
          have i3 : 71 < (s.size : Int) := by omega
          clear hA hB hlt hk hend HMBF h71 HMI HBAD HOK hl
          go_wp2_with fail
          refine bodyPost_ret (results_cell_tmp2 (p := 2) (u1 := 3) (u2 := 4) rfl _ _ w.heap.size _ _ _ _ rfl hb0.out Tryz.underlying67 rfl (by rw [List.size_toArray, bC_length]; kernel_rfl)) rfl ?_
          exact HE.out _ _ _ (by decide) hg0.out
end Go.Proofs.YtcdcmohccbhchaaGreatDoor

namespace Go.Proofs.YtcdcmohccbhchaaGreatDoor
open Go.RowKit

@[local go_sem ↓ high] theorem setCells_drew2 (b : Nat) (l : List Value) (k : Nat) (w : World) : w.drew.setCells b k l = (w.setCells b k l).drew := setCells_drew b l k w
theorem results_tmp_cell_tmp {P : Program} {fn : Func} {p u1 u2 : Tmp} {ty : TypeId} (h : fn.results = #[.tmp u1, .cell p ty, .tmp u2]) (tmps : Array Value) (w : World) (g : Nat) (t : TypeId) (cs : Array Value) (fr : Nat × Nat) (d : TypeDesc)
    (hp : tmps.getD p undef = .pointer (some ⟨g, 0, none⟩)) (hg : w.heap[g]? = some (.cells cs t fr))
    (hu : P.underlying ty = some d) (hd : (match d with | .struct _ | .array _ _ => true | _ => false) = true) (hi : (P.info? ty).map (·.size) = some cs.size) :
    (results fn tmps).run P w = .ok (.tuple #[tmps.getD u1 undef, .agg cs, tmps.getD u2 undef]) w := by
  have hp' : tmps[p]?.getD undef = .pointer (some ⟨g, 0, none⟩) := by simpa using hp
  simp [results, h, hp', asAddr, run_loadVar_row w g t ty cs fr d hg hu hd hi]
/-- The root as far as it was read. -/
def rootTo (l : List UInt8) (k : Nat) : List UInt8 := (l.drop 1).take k ++ List.replicate (16 - k) 0
theorem rootTo_len {l : List UInt8} (hl : l.length = 17) (k : Nat) (hk : k ≤ 16) : (rootTo l k).length = 16 := by
  unfold rootTo; rw [List.length_append, List.length_take, List.length_drop, List.length_replicate]; omega
theorem rootTo_zero (l : List UInt8) : (rootTo l 0).map cU = bC zAut := rfl
theorem rootTo_succ {l : List UInt8} (hl : l.length = 17) (k : Nat) (hk : k < 16) : (rootTo l (k + 1)).map cU = ((rootTo l k).map cU).set k (cU (l.getD (k + 1) 0)) := by
  rw [← List.map_set]
  congr 1
  unfold rootTo
  have h1 : k < (l.drop 1).length := by rw [List.length_drop]; omega
  have ht : ((l.drop 1).take k).length = k := by rw [List.length_take]; omega
  rw [List.take_succ_eq_append_getElem h1, show 16 - k = (16 - (k + 1)) + 1 by omega, List.replicate_succ, List.set_append_right _ _ (by omega), ht, Nat.sub_self, List.set_cons_zero, List.append_assoc, List.getElem_drop, List.getD_eq_getElem?_getD, List.getElem?_eq_getElem (by omega)]
  simp [Nat.add_comm]
theorem rootTo_end {l : List UInt8} (hl : l.length = 17) : (rootTo l 16).map cU = bC (vecOf 16 (l.drop 1)) := by
  unfold rootTo bC
  rw [vecOf_toList (by rw [List.length_drop, hl]), List.take_of_length_le (by rw [List.length_drop]; omega)]
  simp; rfl
def PubRPost (s : ByteArray) (w : World) (e : Ending) (w' : World) : Prop := e = .returned (.tuple #[.int .i64 (pubH (bl s)), .agg (bC (pubR (bl s))).toArray, .int .i64 (pubE (bl s))]) ∧ Gr w w'
set_option maxRecDepth 100000 in
set_option maxHeartbeats 8000000 in
theorem refPubC (s : ByteArray) (w : World) (hs : s.size ≤ 1100) : Calls Tryz.prog 92 #[.string s] w (PubRPost s w) := by
  have hg2 := ((Gr.refl w).alloc (.cells (bC zAut).toArray 24)).alloc (.cells (bC zAut).toArray 24)
  have HB0 := Lib.hid (heap_alloc2_old w (.cells (bC zAut).toArray 24) (.cells (bC zAut).toArray 24))
  have HB1 := Lib.hid (heap_alloc2_new w (.cells (bC zAut).toArray 24) (.cells (bC zAut).toArray 24))
  have HDC := Lib.hid (refDecodeC s ((w.alloc (.cells (bC zAut).toArray 24)).alloc (.cells (bC zAut).toArray 24)) hs)
  have HG2 := Lib.hid hg2
  have HZ2 : Hid (((w.alloc (.cells (bC zAut).toArray 24)).alloc (.cells (bC zAut).toArray 24)).heap.size = w.heap.size + 2) := by show _ = _; simp
  have HPE : Hid (∀ er W', pubE (bl s) = er ∧ er ≠ 0 → Gr w W' → PubRPost s w (.returned (.tuple #[.int .i64 0, .agg (bC zAut).toArray, .int .i64 er])) W') := fun er W' he hg => by
    refine ⟨?_, hg⟩
    unfold pubH pubR
    rw [he.1, if_neg he.2, if_neg he.2]
  have HPO : Hid (∀ W', pubE (bl s) = 0 → Gr w W' → PubRPost s w (.returned (.tuple #[.int .i64 (((decB (bl s)).headD 0).toNat : Int), .agg (bC (vecOf 16 ((decB (bl s)).drop 1))).toArray, .int .i64 0])) W') := fun W' he hg => by
    refine ⟨?_, hg⟩
    unfold pubH pubR
    rw [he, if_pos rfl, if_pos rfl]
  have HPU : Hid (pubE (bl s) = if decE (bl s) ≠ 0 then decE (bl s) else if (decB (bl s)).length < 17 then 4 else if 17 < (decB (bl s)).length then 5 else heightErr (((decB (bl s)).headD 0).toNat : Int)) := rfl
  generalize hX : (w.alloc (.cells (bC zAut).toArray 24)).alloc (.cells (bC zAut).toArray 24) = X at *
  have HXE := Lib.hid hX
  clear hX hg2
  unfold DecRPost at HDC
  generalize decE (bl s) = de at *
  generalize decB (bl s) = db at *
  go_enter Tryz.func92, Tryz.ntmps92
  go_wp2_with fail
  rw [HXE.out]
  refine HDC.out.mono ?_
  rintro e W ⟨v, a, rfl, hv, hgw⟩
  have BZ := Lib.hid ((hgw.block (b := w.heap.size) (by rw [HZ2.out]; omega)).trans HB0.out)
  have BR := Lib.hid ((hgw.block (b := w.heap.size + 1) (by rw [HZ2.out]; omega)).trans HB1.out)
  have GW := Lib.hid (HG2.out.trans hgw)
  have HGE : Hid (∀ l, Gr w (W.setCells w.heap.size 0 l).drew) := fun l => (GW.out.setsOwn (b := w.heap.size) (Nat.le_refl _) l 0).drew
  have r0 := hasRow_block BZ.out 0 16 (by rw [bC_length]; decide)
  have f0 := freeRow_block BZ.out 0 16
  have r1 := hasRow_block BR.out 0 16 (by rw [bC_length]; decide)
  have q1 := (rowAt_block BR.out 0 16 (by rw [bC_length]; decide)).trans (rowOf_all _ _ (bC_length zAut))
  clear HXE hgw HG2 HB0 HB1 HDC
  have z0 : w.heap.size < W.heap.size := (Array.getElem?_eq_some_iff.1 BZ.out).1
  have z1 : w.heap.size + 1 < W.heap.size := (Array.getElem?_eq_some_iff.1 BR.out).1
  by_cases hde : de = 0
  · subst hde
    have HO := Lib.hid (hv rfl)
    rw [if_neg (by simp)] at HPU
    obtain ⟨a0, c0, rfl⟩ := HO.out.shape
    obtain ⟨n, hn⟩ : ∃ n, db.length = n := ⟨_, rfl⟩
    rw [hn] at HPU
    rw [hn]
    by_cases h17 : n < 17
    · have HE : Hid (pubE (bl s) = 4) := by show _ = _; rw [HPU.out, if_pos h17]
      have i1 : (n : Int) < 17 := by omega
      clear hn hv
      go_wp2_with fail
      apply wp_to
      case h =>
        go_region_law (fail)
        all_goals exact ⟨rfl, rfl⟩
      go_wp2_with fail
      refine bodyPost_ret (results_tmp_cell_tmp (u1 := 2) (p := 3) (u2 := 4) rfl _ _ w.heap.size _ _ _ _ rfl (drew_at (sets_whole (cs := bC zAut) BZ.out rfl)) Tryz.underlying24 rfl (by rw [List.size_toArray, bC_length]; kernel_rfl)) rfl ?_
      exact HPE.out _ _ (by exact ⟨HE.out, by decide⟩) (HGE.out _)
    · by_cases h18 : 17 < n
      · have HE : Hid (pubE (bl s) = 5) := by show _ = _; rw [HPU.out, if_neg h17, if_pos h18]
        have i1 : ¬ (n : Int) < 17 := by omega
        have i2 : 17 < (n : Int) := by omega
        clear hn hv
        go_wp2_with fail
        apply wp_to
        case h =>
          go_region_law (fail)
          all_goals exact ⟨rfl, rfl⟩
        go_wp2_with fail
        refine bodyPost_ret (results_tmp_cell_tmp (u1 := 2) (p := 3) (u2 := 4) rfl _ _ w.heap.size _ _ _ _ rfl (drew_at (sets_whole (cs := bC zAut) BZ.out rfl)) Tryz.underlying24 rfl (by rw [List.size_toArray, bC_length]; kernel_rfl)) rfl ?_
        exact HPE.out _ _ (by exact ⟨HE.out, by decide⟩) (HGE.out _)
      · have hn17 : n = 17 := by omega
        subst hn17
        obtain ⟨g, c, hvv, _, hgz, hgb, hcell⟩ := HO.out.cells (by intro e; rw [e] at hn; cases hn)
        obtain ⟨rfl, -, rfl⟩ : a0 = some ⟨g, 0, none⟩ ∧ db.length = db.length ∧ c0 = c := by simpa using hvv
        have HCL : Hid (∀ j, j < 17 → W.cell? ⟨g, j, none⟩ = some (.int .u8 ((db.getD j 0).toNat : Int))) := fun j hj => by
          have := hcell j db[j] (List.getElem?_eq_getElem (by omega))
          rw [Nat.zero_add] at this
          rw [this, List.getD_eq_getElem?_getD, List.getElem?_eq_getElem (by omega)]; rfl
        have hgb' : w.heap.size + 2 ≤ g := by rw [← HZ2.out]; exact hgb
        have HHD : Hid (db.headD 0 = db.getD 0 0) := by show _ = _; cases db <;> rfl
        rw [if_neg h17, if_neg h18, HHD.out] at HPU
        rw [HHD.out] at HPO
        have HRS := Lib.hid (rootTo_succ hn)
        have HRE := Lib.hid (rootTo_end hn)
        have HRL := Lib.hid (rootTo_len hn)
        have HR0 := Lib.hid (rootTo_zero db)
        have c00 := HCL.out 0 (by decide)
        have hx256 := (db.getD 0 0).toNat_lt
        clear hn hv hvv hcell hgb HO
        generalize hx0 : (db.getD 0 0).toNat = x at *
        have HX0 := Lib.hid hx0
        clear hx0
        have HH : Hid (heightErr (x : Int) = if (x : Int) < 1 ∨ 8 < (x : Int) then 2 else 0) := rfl
        by_cases hx1 : x < 1
        · have HE : Hid (pubE (bl s) = 2) := by show _ = _; rw [HPU.out, HH.out, if_pos (by omega)]
          have i1 : (x : Int) < 1 := by omega
          go_wp2_with fail
          apply wp_to
          case h =>
            go_region_law (fail)
            all_goals exact ⟨rfl, rfl⟩
          go_wp2_with fail
          refine bodyPost_ret (results_tmp_cell_tmp (u1 := 2) (p := 3) (u2 := 4) rfl _ _ w.heap.size _ _ _ _ rfl (drew_at (sets_whole (cs := bC zAut) BZ.out rfl)) Tryz.underlying24 rfl (by rw [List.size_toArray, bC_length]; kernel_rfl)) rfl ?_
          exact HPE.out _ _ (by exact ⟨HE.out, by decide⟩) (HGE.out _)
        · by_cases hx8 : 8 < x
          · have HE : Hid (pubE (bl s) = 2) := by show _ = _; rw [HPU.out, HH.out, if_pos (by omega)]
            have i1 : ¬ (x : Int) < 1 := by omega
            have i2 : 8 < (x : Int) := by omega
            go_wp2_with fail
            apply wp_to
            case h =>
              go_region_law (fail)
              all_goals exact ⟨rfl, rfl⟩
            go_wp2_with fail
            refine bodyPost_ret (results_tmp_cell_tmp (u1 := 2) (p := 3) (u2 := 4) rfl _ _ w.heap.size _ _ _ _ rfl (drew_at (sets_whole (cs := bC zAut) BZ.out rfl)) Tryz.underlying24 rfl (by rw [List.size_toArray, bC_length]; kernel_rfl)) rfl ?_
            exact HPE.out _ _ (by exact ⟨HE.out, by decide⟩) (HGE.out _)
          · have HE : Hid (pubE (bl s) = 0) := by show _ = _; rw [HPU.out, HH.out, if_neg (by omega)]
            have i1 : ¬ (x : Int) < 1 := by omega
            have i2 : ¬ 8 < (x : Int) := by omega
            clear r0 f0 r1 q1 HPE HGE
            go_wp2_with fail
            clear c00
            go_loopw [9, 39, 40, 41, 42, 43, 44, 45, 46, 47, 48, 49] (fun i _ _ _ _ _ _ _ _ _ _ _ wr => ∃ k : Nat, k ≤ 16 ∧ i = .int .i64 k ∧ Hid (Gr w wr) ∧ Hid (wr.heap[w.heap.size]? = some (.cells (bC zAut).toArray 24 (0, 0))) ∧ Hid (wr.heap[w.heap.size + 1]? = some (.cells ((rootTo db k).map cU).toArray 24 (0, 0))) ∧ Hid (g < wr.heap.size ∧ wr.heap[g]? = W.heap[g]?)) (fun i _ _ _ _ _ _ _ _ _ _ _ _ => 16 - (intOf i).toNat)
            case atStart => exact ⟨0, Nat.zero_le _, rfl, GW.out, BZ.out, by rw [HR0.out]; exact BR.out, hgz, rfl⟩
            case round =>
              obtain ⟨k, hk, rfl, hG, hB0, hB1, hGG⟩ := hrel
              have hcl : ∀ j, j < 17 → wr.cell? ⟨g, j, none⟩ = some (.int .u8 ((db.getD j 0).toNat : Int)) := fun j hj => by
                rw [← HCL.out j hj]
                unfold World.cell?
                rw [hGG.out.2]
              have hzg := hGG.out.1
              have hl := HRL.out k hk
              have hl' : ((rootTo db k).map cU).length = 16 := by rw [List.length_map, hl]
              by_cases hlt : k < 16
              · have j1 : (k : Int) < 16 := by omega
                have j2 : (0 : Int) ≤ (k : Int) := by omega
                have j3 : ((k : Int) + 1).toNat = k + 1 := by omega
                have j4 : (0 : Int) ≤ (k : Int) + 1 := by omega
                have j5 : (k : Int) + 1 < 17 := by omega
                have c1 := hcl (k + 1) (by omega)
                have hsome : ∃ u, wr.cell? ⟨w.heap.size + 1, k, none⟩ = some u := by
                  rw [cell_block hB1.out, List.getElem?_eq_getElem (by rw [hl']; exact hlt)]; exact ⟨_, rfl⟩
                obtain ⟨u, c2⟩ := hsome
                have f2 := free_block hB1.out k
                have HNS := Lib.hid (HRS.out k hlt)
                generalize db.getD (k + 1) 0 = y at *
                have HB1' := Lib.hid (heap_setCell_same wr (w.heap.size + 1) k _ _ (cU y) hB1.out)
                have HB0' := Lib.hid ((heap_setCell_other wr ⟨w.heap.size + 1, k, none⟩ w.heap.size (cU y) (by show w.heap.size ≠ w.heap.size + 1; omega)).trans hB0.out)
                have HG' := Lib.hid (hG.out.setOwn (b := w.heap.size + 1) (o := k) (by omega) (cU y))
                have HGG' : Hid (g < (wr.setCell ⟨w.heap.size + 1, k, none⟩ (cU y)).heap.size ∧ (wr.setCell ⟨w.heap.size + 1, k, none⟩ (cU y)).heap[g]? = W.heap[g]?) := ⟨by simpa using hzg, (heap_setCell_other wr ⟨w.heap.size + 1, k, none⟩ g (cU y) (by show g ≠ w.heap.size + 1; omega)).trans hGG.out.2⟩
                clear hcl hl hl' hB0 hB1 hG hGG
                go_wp2_with fail
                go_roundw
                case rel => exact ⟨k + 1, by omega, by go_num, HG'.out, HB0'.out, by show _ = _; rw [HNS.out]; simpa [cU] using HB1'.out, HGG'.out⟩
                case measure => simp [intOf]; omega
              · have j1 : ¬ (k : Int) < 16 := by omega
                have hk16 : k = 16 := by omega
                rw [hk16, HRE.out] at hB1
                have c00 := hcl 0 (by decide)
                rw [HX0.out] at c00
                have wx : IntKind.i64.wrap (x : Int) = (x : Int) := by rw [IntKind.wrap_i64]; omega
                have r0 := hasRow_block hB0.out 0 16 (by rw [bC_length]; decide)
                have f0 := freeRow_block hB0.out 0 16
                have r1 := hasRow_block hB1.out 0 16 (by rw [bC_length]; decide)
                have q1 := (rowAt_block hB1.out 0 16 (by rw [bC_length]; decide)).trans (rowOf_all _ _ (bC_length _))
                have HGE2 : Hid (∀ l, Gr w (wr.setCells w.heap.size 0 l).drew) := fun l => (hG.out.setsOwn (b := w.heap.size) (Nat.le_refl _) l 0).drew
                have HBZ := Lib.hid (fun (R : Aut) => sets_whole (cs := bC R) hB0.out (by rw [bC_length, bC_length]))
                have z0' : w.heap.size < wr.heap.size := (Array.getElem?_eq_some_iff.1 hB0.out).1
                have z1' : w.heap.size + 1 < wr.heap.size := (Array.getElem?_eq_some_iff.1 hB1.out).1
                clear hcl hl hl' hB0 hB1 hG hGG HRE HRS HRL HR0 HCL hk16 z0 z1
                generalize vecOf 16 (db.drop 1) = R at *
                go_wp2_with fail
                apply wp_to
                case h =>
                  go_region_law (fail)
                  all_goals exact ⟨rfl, rfl⟩
                go_wp2_with fail
                refine bodyPost_ret (results_tmp_cell_tmp (u1 := 2) (p := 3) (u2 := 4) rfl _ _ w.heap.size _ _ _ _ rfl (drew_at (HBZ.out R)) Tryz.underlying24 rfl (by rw [List.size_toArray, bC_length]; kernel_rfl)) rfl ?_
                exact HPO.out _ HE.out (HGE2.out _)
  · have y1 : (de == 0) = false := by simpa using hde
    have y2 : (de != 0) = true := by simpa using hde
    have HE : Hid (pubE (bl s) = de ∧ de ≠ 0) := ⟨by rw [HPU.out, if_pos hde], hde⟩
    clear hde hv
    go_wp2_with fail
    apply wp_to
    case h =>
      go_region_law (fail)
      all_goals exact ⟨rfl, rfl⟩
    go_wp2_with fail
    refine bodyPost_ret (results_tmp_cell_tmp (u1 := 2) (p := 3) (u2 := 4) rfl _ _ w.heap.size _ _ _ _ rfl (drew_at (sets_whole (cs := bC zAut) BZ.out rfl)) Tryz.underlying24 rfl (by rw [List.size_toArray, bC_length]; kernel_rfl)) rfl ?_
    exact HPE.out _ _ (by exact HE.out) (HGE.out _)
end Go.Proofs.YtcdcmohccbhchaaGreatDoor

namespace Go.Proofs.YtcdcmohccbhchaaGreatDoor
open Go.RowKit

/-- What word leaves. -/
def WdPost (t : Srt) (c : Cm) (v : Value) (x : Str) (w : World) (e : Ending) (w' : World) : Prop :=
  ∃ c' a n k, e = .returned (.tuple #[.agg (cmC c' (.slice a n k)).toArray, .int .i64 (srtE t x)]) ∧ (srtE t x = 0 → c' = srtU c t x ∧ AutsAt w' (.slice a n k) c'.mods ∧ (t ≠ .authors → Value.slice a n k = v) ∧ (t = .authors → ∀ y, a = some y → w.heap.size ≤ y.block)) ∧ Gr w w'
section
variable (c : Cm) (v : Value)
@[local go_sem ↓ high] theorem ls_group (g : ByteArray) : (cmC c v).set 33 (.string g) = cmC { c with group := g } v := by rw [cm_set _ _ _ _ (by decide)]; rfl
@[local go_sem ↓ high] theorem ls_version (n : Int) : (cmC c v).set 34 (.int .i64 n) = cmC { c with version := n } v := by rw [cm_set _ _ _ _ (by decide)]; rfl
@[local go_sem ↓ high] theorem ls_moderated (m : Bool) : (cmC c v).set 35 (.bool m) = cmC { c with moderated := m } v := by rw [cm_set _ _ _ _ (by decide)]; rfl
@[local go_sem ↓ high] theorem ls_number (n : Int) : (cmC c v).set 38 (.int .i64 n) = cmC { c with number := n } v := by rw [cm_set _ _ _ _ (by decide)]; rfl
end
theorem word_end {W : World} {b : Nat} {c : Cm} {v : Value} (h0 : W.heap[b]? = some (.cells (cmC c v).toArray 26 (0, 0))) (h1 : W.heap[b + 1]? = some (.cells (cmC (cm0 0) nilV).toArray 26 (0, 0))) :
    hasRow W ⟨b, 0, none⟩ 56 = true ∧ rowAt W ⟨b, 0, none⟩ 56 = cmC c v ∧ hasRow W ⟨b + 1, 0, none⟩ 56 = true ∧ freeRow W ⟨b + 1, 0, none⟩ 56 = true ∧ Hid ((W.setCells (b + 1) 0 (cmC c v)).heap[b + 1]? = some (.cells (cmC c v).toArray 26 (0, 0))) ∧ b < W.heap.size ∧ b + 1 < W.heap.size :=
  ⟨hasRow_block h0 0 56 (by rw [cmC_length]; decide), (rowAt_block h0 0 56 (by rw [cmC_length]; decide)).trans (cm_whole c v), hasRow_block h1 0 56 (by rw [cmC_length]; decide), freeRow_block h1 0 56, sets_whole h1 (by rw [cmC_length, cmC_length]), (Array.getElem?_eq_some_iff.1 h0).1, (Array.getElem?_eq_some_iff.1 h1).1⟩
set_option maxRecDepth 100000 in
set_option maxHeartbeats 4000000 in
theorem wordGroup (c : Cm) (v : Value) (x : ByteArray) (w : World) (hv : AutsAt w v c.mods) : Calls Tryz.prog 55 #[.agg (cmC c v).toArray, .string ⟨#[103, 114, 111, 117, 112]⟩, .string x] w (WdPost .group c v (bl x) w) := by
  have HP : Hid (∀ er W' c' v', groupE (bl x) = er → c' = srtU c .group (bl x) → AutsAt w v' c'.mods → v' = v → Gr w W' → WdPost .group c v (bl x) w (.returned (.tuple #[.agg (cmC c' v').toArray, .int .i64 er])) W') := fun er W' c' v' he hc hv' hve hg => by
    obtain ⟨a, k, rfl, hr⟩ := hv'.gr hg
    exact ⟨c', a, _, k, by rw [show srtE .group (bl x) = er from he], fun _ => ⟨hc, ⟨a, k, rfl, hr⟩, fun _ => hve, fun q => (by cases q)⟩, hg⟩
  have HE : Hid (groupE (bl x) = if nameErr x ≠ 0 then 12 else 0) := rfl
  have HU : Hid ({ c with group := x } = srtU c .group (bl x)) := rfl
  have HV := Lib.hid hv
  obtain ⟨a, cap, rfl, -⟩ := hv
  have HN := Lib.hid (nameRC x)
  have G0 := Lib.hid (((Gr.refl w).alloc (.cells (cmC { c with group := x } (.slice a (c.mods.map bC).length cap)).toArray 26)).alloc (.cells (cmC (cm0 0) nilV).toArray 26))
  have HB0 := Lib.hid (heap_alloc2_old w (.cells (cmC { c with group := x } (.slice a (c.mods.map bC).length cap)).toArray 26) (.cells (cmC (cm0 0) nilV).toArray 26))
  have HB1 := Lib.hid (heap_alloc2_new w (.cells (cmC { c with group := x } (.slice a (c.mods.map bC).length cap)).toArray 26) (.cells (cmC (cm0 0) nilV).toArray 26))
  generalize (c.mods.map bC).length = n at *
  generalize nameErr x = er at *
  go_enter Tryz.func55, Tryz.ntmps55
  go_wp2_with fail
  refine (HN.out _).mono ?_
  rintro e W ⟨rfl, hg⟩
  have hb0 := (hg.block (Array.getElem?_eq_some_iff.1 HB0.out).1).trans HB0.out
  have hb1 := (hg.block (Array.getElem?_eq_some_iff.1 HB1.out).1).trans HB1.out
  obtain ⟨r0, q0, r1, f1, HW, z0, z1⟩ := word_end hb0 hb1
  have GE := Lib.hid ((G0.out.trans hg).setsOwn (b := w.heap.size + 1) (Nat.le_succ _) (cmC { c with group := x } (.slice a n cap)) 0)
  clear hb0 hb1 hg HB0 HB1 G0
  by_cases he : er = 0
  · subst he
    rw [if_neg (by simp)] at HE
    go_wp2_with fail
    refine bodyPost_ret (results_cell_tmp (p := 6) (u1 := 7) rfl _ _ (w.heap.size + 1) _ _ _ _ rfl HW.out Tryz.underlying26 rfl (by rw [List.size_toArray, cmC_length]; kernel_rfl)) rfl ?_
    exact HP.out _ _ _ _ HE.out HU.out HV.out rfl GE.out
  · have y1 : (er == 0) = false := by simpa using he
    have y2 : (er != 0) = true := by simpa using he
    rw [if_pos he] at HE
    clear he
    go_wp2_with fail
    refine bodyPost_ret (results_cell_tmp (p := 6) (u1 := 7) rfl _ _ (w.heap.size + 1) _ _ _ _ rfl HW.out Tryz.underlying26 rfl (by rw [List.size_toArray, cmC_length]; kernel_rfl)) rfl ?_
    exact HP.out _ _ _ _ HE.out HU.out HV.out rfl GE.out
set_option maxRecDepth 100000 in
set_option maxHeartbeats 4000000 in
theorem wordVersion (c : Cm) (v : Value) (x : ByteArray) (w : World) (hv : AutsAt w v c.mods) : Calls Tryz.prog 55 #[.agg (cmC c v).toArray, .string ⟨#[118, 101, 114, 115, 105, 111, 110]⟩, .string x] w (WdPost .version c v (bl x) w) := by
  have HP : Hid (∀ er W' c' v', numE 0 1000000 (bl x) = er → (er = 0 → c' = srtU c .version (bl x)) → c'.mods = c.mods → AutsAt w v' c.mods → v' = v → Gr w W' → WdPost .version c v (bl x) w (.returned (.tuple #[.agg (cmC c' v').toArray, .int .i64 er])) W') := fun er W' c' v' he hc hm hv' hve hg => by
    obtain ⟨a, k, rfl, hr⟩ := hv'.gr hg
    exact ⟨c', a, _, k, by rw [show srtE .version (bl x) = er from he], fun h => ⟨hc (by rw [← he]; exact h), by rw [hm]; exact ⟨a, k, rfl, hr⟩, fun _ => hve, fun q => (by cases q)⟩, hg⟩
  have HE : Hid (numE 0 1000000 (bl x) = if numB (bl x) = false then 3 else if (numL (bl x) : Int) < 0 ∨ 1000000 < (numL (bl x) : Int) then 2 else 0) := rfl
  have HU : Hid (numB (bl x) = true → { c with version := (numL (bl x) : Int) } = srtU c .version (bl x)) := fun h => by
    show _ = { c with version := numV (bl x) }
    unfold numV; rw [if_pos h]
  have HN := Lib.hid (refNumC x)
  unfold numRV at HN
  have HV := Lib.hid hv
  obtain ⟨a, cap, rfl, -⟩ := hv
  have HWA : Hid (∀ nv : Int, ((w.alloc (.cells (cmC { c with version := nv } (.slice a (c.mods.map bC).length cap)).toArray 26)).alloc (.cells (cmC { c with version := nv } (.slice a (c.mods.map bC).length cap)).toArray 26)).heap[w.heap.size + 1]? = some (.cells (cmC { c with version := nv } (.slice a (c.mods.map bC).length cap)).toArray 26 (0, 0))) := fun nv => heap_alloc2_new w _ _
  have HG : Hid (∀ nv : Int, Gr w ((w.alloc (.cells (cmC { c with version := nv } (.slice a (c.mods.map bC).length cap)).toArray 26)).alloc (.cells (cmC { c with version := nv } (.slice a (c.mods.map bC).length cap)).toArray 26))) := fun nv => ((Gr.refl w).alloc _).alloc _
  generalize (c.mods.map bC).length = n at *
  cases hb : numB (bl x) with
  | false =>
    rw [hb, if_pos rfl] at HE
    rw [hb, if_neg (by decide)] at HN
    have HW := Lib.hid (HWA.out (-1))
    have GE := Lib.hid (HG.out (-1))
    clear HWA HG hb HU
    go_enter Tryz.func55, Tryz.ntmps55
    go_wp2_with (go_at_call 91; refine (HN.out _).mono ?_; rintro e W ⟨rfl, rfl⟩)
    refine bodyPost_ret (results_cell_tmp (p := 6) (u1 := 7) rfl _ _ (w.heap.size + 1) _ _ _ _ rfl HW.out Tryz.underlying26 rfl (by rw [List.size_toArray, cmC_length]; kernel_rfl)) rfl ?_
    exact HP.out _ _ { c with version := -1 } _ HE.out (fun h => by cases h) rfl HV.out rfl GE.out
  | true =>
    rw [hb, if_neg (by decide)] at HE
    rw [hb, if_pos rfl] at HN
    have HU' := Lib.hid (HU.out hb)
    generalize numL (bl x) = nv at *
    have HW := Lib.hid (HWA.out nv)
    have GE := Lib.hid (HG.out nv)
    have i0 : ¬ (nv : Int) < 0 := by omega
    clear HWA HG hb HU
    by_cases h : 1000000 < (nv : Int)
    · have HE2 := Lib.hid (HE.out.trans (if_pos (.inr h)))
      clear HE
      go_enter Tryz.func55, Tryz.ntmps55
      go_wp2_with (go_at_call 91; refine (HN.out _).mono ?_; rintro e W ⟨rfl, rfl⟩)
      refine bodyPost_ret (results_cell_tmp (p := 6) (u1 := 7) rfl _ _ (w.heap.size + 1) _ _ _ _ rfl HW.out Tryz.underlying26 rfl (by rw [List.size_toArray, cmC_length]; kernel_rfl)) rfl ?_
      exact HP.out _ _ { c with version := (nv : Int) } _ HE2.out (fun h => by cases h) rfl HV.out rfl GE.out
    · have HE2 := Lib.hid (HE.out.trans (if_neg (by rintro (q | q); exact i0 q; exact h q)))
      clear HE
      go_enter Tryz.func55, Tryz.ntmps55
      go_wp2_with (go_at_call 91; refine (HN.out _).mono ?_; rintro e W ⟨rfl, rfl⟩)
      refine bodyPost_ret (results_cell_tmp (p := 6) (u1 := 7) rfl _ _ (w.heap.size + 1) _ _ _ _ rfl HW.out Tryz.underlying26 rfl (by rw [List.size_toArray, cmC_length]; kernel_rfl)) rfl ?_
      exact HP.out _ _ { c with version := (nv : Int) } _ HE2.out (fun _ => HU'.out) rfl HV.out rfl GE.out
set_option maxRecDepth 100000 in
set_option maxHeartbeats 4000000 in
theorem wordNumber (c : Cm) (v : Value) (x : ByteArray) (w : World) (hv : AutsAt w v c.mods) : Calls Tryz.prog 55 #[.agg (cmC c v).toArray, .string ⟨#[110, 117, 109, 98, 101, 114]⟩, .string x] w (WdPost .number c v (bl x) w) := by
  have HP : Hid (∀ er W' c' v', numE 1 1000 (bl x) = er → (er = 0 → c' = srtU c .number (bl x)) → c'.mods = c.mods → AutsAt w v' c.mods → v' = v → Gr w W' → WdPost .number c v (bl x) w (.returned (.tuple #[.agg (cmC c' v').toArray, .int .i64 er])) W') := fun er W' c' v' he hc hm hv' hve hg => by
    obtain ⟨a, k, rfl, hr⟩ := hv'.gr hg
    exact ⟨c', a, _, k, by rw [show srtE .number (bl x) = er from he], fun h => ⟨hc (by rw [← he]; exact h), by rw [hm]; exact ⟨a, k, rfl, hr⟩, fun _ => hve, fun q => (by cases q)⟩, hg⟩
  have HE : Hid (numE 1 1000 (bl x) = if numB (bl x) = false then 3 else if (numL (bl x) : Int) < 1 ∨ 1000 < (numL (bl x) : Int) then 2 else 0) := rfl
  have HU : Hid (numB (bl x) = true → { c with number := (numL (bl x) : Int) } = srtU c .number (bl x)) := fun h => by
    show _ = { c with number := numV (bl x) }
    unfold numV; rw [if_pos h]
  have HN := Lib.hid (refNumC x)
  unfold numRV at HN
  have HV := Lib.hid hv
  obtain ⟨a, cap, rfl, -⟩ := hv
  have HWA : Hid (∀ nv : Int, ((w.alloc (.cells (cmC { c with number := nv } (.slice a (c.mods.map bC).length cap)).toArray 26)).alloc (.cells (cmC { c with number := nv } (.slice a (c.mods.map bC).length cap)).toArray 26)).heap[w.heap.size + 1]? = some (.cells (cmC { c with number := nv } (.slice a (c.mods.map bC).length cap)).toArray 26 (0, 0))) := fun nv => heap_alloc2_new w _ _
  have HG : Hid (∀ nv : Int, Gr w ((w.alloc (.cells (cmC { c with number := nv } (.slice a (c.mods.map bC).length cap)).toArray 26)).alloc (.cells (cmC { c with number := nv } (.slice a (c.mods.map bC).length cap)).toArray 26))) := fun nv => ((Gr.refl w).alloc _).alloc _
  generalize (c.mods.map bC).length = n at *
  cases hb : numB (bl x) with
  | false =>
    rw [hb, if_pos rfl] at HE
    rw [hb, if_neg (by decide)] at HN
    have HW := Lib.hid (HWA.out (-1))
    have GE := Lib.hid (HG.out (-1))
    clear HWA HG hb HU
    go_enter Tryz.func55, Tryz.ntmps55
    go_wp2_with (go_at_call 91; refine (HN.out _).mono ?_; rintro e W ⟨rfl, rfl⟩)
    refine bodyPost_ret (results_cell_tmp (p := 6) (u1 := 7) rfl _ _ (w.heap.size + 1) _ _ _ _ rfl HW.out Tryz.underlying26 rfl (by rw [List.size_toArray, cmC_length]; kernel_rfl)) rfl ?_
    exact HP.out _ _ { c with number := -1 } _ HE.out (fun h => by cases h) rfl HV.out rfl GE.out
  | true =>
    rw [hb, if_neg (by decide)] at HE
    rw [hb, if_pos rfl] at HN
    have HU' := Lib.hid (HU.out hb)
    generalize numL (bl x) = nv at *
    have HW := Lib.hid (HWA.out nv)
    have GE := Lib.hid (HG.out nv)
    have i0 : ¬ (nv : Int) < 0 := by omega
    clear HWA HG hb HU
    by_cases h : (nv : Int) < 1
    · have HE2 := Lib.hid (HE.out.trans (if_pos (.inl h)))
      clear HE
      go_enter Tryz.func55, Tryz.ntmps55
      go_wp2_with (go_at_call 91; refine (HN.out _).mono ?_; rintro e W ⟨rfl, rfl⟩)
      refine bodyPost_ret (results_cell_tmp (p := 6) (u1 := 7) rfl _ _ (w.heap.size + 1) _ _ _ _ rfl HW.out Tryz.underlying26 rfl (by rw [List.size_toArray, cmC_length]; kernel_rfl)) rfl ?_
      exact HP.out _ _ { c with number := (nv : Int) } _ HE2.out (fun h => by cases h) rfl HV.out rfl GE.out
    · by_cases h2 : 1000 < (nv : Int)
      · have HE2 := Lib.hid (HE.out.trans (if_pos (.inr h2)))
        clear HE
        go_enter Tryz.func55, Tryz.ntmps55
        go_wp2_with (go_at_call 91; refine (HN.out _).mono ?_; rintro e W ⟨rfl, rfl⟩)
        refine bodyPost_ret (results_cell_tmp (p := 6) (u1 := 7) rfl _ _ (w.heap.size + 1) _ _ _ _ rfl HW.out Tryz.underlying26 rfl (by rw [List.size_toArray, cmC_length]; kernel_rfl)) rfl ?_
        exact HP.out _ _ { c with number := (nv : Int) } _ HE2.out (fun h => by cases h) rfl HV.out rfl GE.out
      · have HE2 := Lib.hid (HE.out.trans (if_neg (by rintro (q | q); exact h q; exact h2 q)))
        clear HE
        go_enter Tryz.func55, Tryz.ntmps55
        go_wp2_with (go_at_call 91; refine (HN.out _).mono ?_; rintro e W ⟨rfl, rfl⟩)
        refine bodyPost_ret (results_cell_tmp (p := 6) (u1 := 7) rfl _ _ (w.heap.size + 1) _ _ _ _ rfl HW.out Tryz.underlying26 rfl (by rw [List.size_toArray, cmC_length]; kernel_rfl)) rfl ?_
        exact HP.out _ _ { c with number := (nv : Int) } _ HE2.out (fun _ => HU'.out) rfl HV.out rfl GE.out
set_option maxRecDepth 100000 in
set_option maxHeartbeats 4000000 in
theorem wordMode (c : Cm) (v : Value) (x : ByteArray) (w : World) (hv : AutsAt w v c.mods) : Calls Tryz.prog 55 #[.agg (cmC c v).toArray, .string ⟨#[109, 111, 100, 101]⟩, .string x] w (WdPost .mode c v (bl x) w) := by
  have HP : Hid (∀ er W' c' v', (if bl x = modT ∨ bl x = openT then (0 : Int) else 3) = er → c' = srtU c .mode (bl x) → c'.mods = c.mods → AutsAt w v' c.mods → v' = v → Gr w W' → WdPost .mode c v (bl x) w (.returned (.tuple #[.agg (cmC c' v').toArray, .int .i64 er])) W') := fun er W' c' v' he hc hm hv' hve hg => by
    obtain ⟨a, k, rfl, hr⟩ := hv'.gr hg
    exact ⟨c', a, _, k, by rw [show srtE .mode (bl x) = er from he], fun h => ⟨hc, by rw [hm]; exact ⟨a, k, rfl, hr⟩, fun _ => hve, fun q => (by cases q)⟩, hg⟩
  have HV := Lib.hid hv
  obtain ⟨a, cap, rfl, -⟩ := hv
  have HU : Hid (∀ b, decide (bl x = modT) = b → { c with moderated := b } = srtU c .mode (bl x)) := fun b h => by subst h; rfl
  have HWA : Hid (∀ b : Bool, ((w.alloc (.cells (cmC { c with moderated := b } (.slice a (c.mods.map bC).length cap)).toArray 26)).alloc (.cells (cmC { c with moderated := b } (.slice a (c.mods.map bC).length cap)).toArray 26)).heap[w.heap.size + 1]? = some (.cells (cmC { c with moderated := b } (.slice a (c.mods.map bC).length cap)).toArray 26 (0, 0))) := fun b => heap_alloc2_new w _ _
  have HG : Hid (∀ b : Bool, Gr w ((w.alloc (.cells (cmC { c with moderated := b } (.slice a (c.mods.map bC).length cap)).toArray 26)).alloc (.cells (cmC { c with moderated := b } (.slice a (c.mods.map bC).length cap)).toArray 26))) := fun b => ((Gr.refl w).alloc _).alloc _
  generalize (c.mods.map bC).length = n at *
  by_cases h1 : bl x = modT
  · have hx : x = ⟨#[109, 111, 100, 101, 114, 97, 116, 101, 100]⟩ := bl_inj h1
    have HE := Lib.hid (HP.out 0 _ _ (.slice a n cap) (if_pos (.inl h1)) (HU.out true (decide_eq_true h1)) rfl HV.out rfl (HG.out true))
    have HW := Lib.hid (HWA.out true)
    subst hx
    clear HP HU HWA HG h1
    go_enter Tryz.func55, Tryz.ntmps55
    go_wp2_with fail
    refine bodyPost_ret (results_cell_tmp (p := 6) (u1 := 7) rfl _ _ (w.heap.size + 1) _ _ _ _ rfl HW.out Tryz.underlying26 rfl (by rw [List.size_toArray, cmC_length]; kernel_rfl)) rfl ?_
    exact HE.out
  · by_cases h2 : bl x = openT
    · have hx : x = ⟨#[111, 112, 101, 110]⟩ := bl_inj h2
      have HE := Lib.hid (HP.out 0 _ _ (.slice a n cap) (if_pos (.inr h2)) (HU.out false (decide_eq_false h1)) rfl HV.out rfl (HG.out false))
      have HW := Lib.hid (HWA.out false)
      subst hx
      clear HP HU HWA HG h1 h2
      go_enter Tryz.func55, Tryz.ntmps55
      go_wp2_with fail
      refine bodyPost_ret (results_cell_tmp (p := 6) (u1 := 7) rfl _ _ (w.heap.size + 1) _ _ _ _ rfl HW.out Tryz.underlying26 rfl (by rw [List.size_toArray, cmC_length]; kernel_rfl)) rfl ?_
      exact HE.out
    · have HE := Lib.hid (HP.out 3 _ _ (.slice a n cap) (if_neg (by rintro (q | q); exact h1 q; exact h2 q)) (HU.out false (decide_eq_false h1)) rfl HV.out rfl (HG.out false))
      have HW := Lib.hid (HWA.out false)
      have q1 : (x.toList == [109, 111, 100, 101, 114, 97, 116, 101, 100]) = false := by rw [bl_toList, beq_eq_false_iff_ne]; exact h1
      have q2 : (x.toList == [111, 112, 101, 110]) = false := by rw [bl_toList, beq_eq_false_iff_ne]; exact h2
      have q3 : (x.toList != [111, 112, 101, 110]) = true := by rw [bl_toList, bne_iff_ne]; exact h2
      clear HP HU HWA HG h1 h2
      go_enter Tryz.func55, Tryz.ntmps55
      go_wp2_with fail
      refine bodyPost_ret (results_cell_tmp (p := 6) (u1 := 7) rfl _ _ (w.heap.size + 1) _ _ _ _ rfl HW.out Tryz.underlying26 rfl (by rw [List.size_toArray, cmC_length]; kernel_rfl)) rfl ?_
      exact HE.out
end Go.Proofs.YtcdcmohccbhchaaGreatDoor

namespace Go.Proofs.YtcdcmohccbhchaaGreatDoor
open Go.RowKit

@[local go_sem ↓ high] theorem zeroRidW (w : World) : Sem.run Tryz.prog (zeroValue 67) w = .ok (.agg (bC zId).toArray) w := by kernel_rfl
@[local go_sem ↓ high] theorem zeroRCW (w : World) : Sem.run Tryz.prog (zeroValue 26) w = .ok (.agg (cmC (cm0 0) nilV).toArray) w := by kernel_rfl
set_option maxRecDepth 100000 in
set_option maxHeartbeats 4000000 in
theorem wordTarget (c : Cm) (v : Value) (x : ByteArray) (w : World) (hv : AutsAt w v c.mods) (hs : x.size ≤ 1100) : Calls Tryz.prog 55 #[.agg (cmC c v).toArray, .string ⟨#[116, 97, 114, 103, 101, 116]⟩, .string x] w (WdPost .target c v (bl x) w) := by
  have HP : Hid (∀ er W' c' v', targetE (bl x) = er → (er = 0 → c' = srtU c .target (bl x)) → c'.mods = c.mods → AutsAt w v' c.mods → v' = v → Gr w W' → WdPost .target c v (bl x) w (.returned (.tuple #[.agg (cmC c' v').toArray, .int .i64 er])) W') := fun er W' c' v' he hc hm hv' hve hg => by
    obtain ⟨a, k, rfl, hr⟩ := hv'.gr hg
    exact ⟨c', a, _, k, by rw [show srtE .target (bl x) = er from he], fun h => ⟨hc (by rw [← he]; exact h), by rw [hm]; exact ⟨a, k, rfl, hr⟩, fun _ => hve, fun q => (by cases q)⟩, hg⟩
  have HE : Hid (targetE (bl x) = if midB (bl x) = false then 3 else if midV (bl x) = zId then 1 else 0) := rfl
  have HU : Hid ({ c with target := midV (bl x) } = srtU c .target (bl x)) := rfl
  have HV := Lib.hid hv
  obtain ⟨a, cap, rfl, -⟩ := hv
  have HB0 := Lib.hid (heap_alloc2_old w (.cells (cmC c (.slice a (c.mods.map bC).length cap)).toArray 26) (.cells (cmC (cm0 0) nilV).toArray 26))
  have HB1 := Lib.hid (heap_alloc2_new w (.cells (cmC c (.slice a (c.mods.map bC).length cap)).toArray 26) (.cells (cmC (cm0 0) nilV).toArray 26))
  have G0 := Lib.hid (((Gr.refl w).alloc (.cells (cmC c (.slice a (c.mods.map bC).length cap)).toArray 26)).alloc (.cells (cmC (cm0 0) nilV).toArray 26))
  have HM := Lib.hid (refMidPC x ((w.alloc (.cells (cmC c (.slice a (c.mods.map bC).length cap)).toArray 26)).alloc (.cells (cmC (cm0 0) nilV).toArray 26)) hs)
  unfold MidPost at HM
  generalize (c.mods.map bC).length = n at *
  generalize hX : (w.alloc (.cells (cmC c (.slice a n cap)).toArray 26)).alloc (.cells (cmC (cm0 0) nilV).toArray 26) = X at *
  have HX := Lib.hid hX
  clear hX
  go_enter Tryz.func55, Tryz.ntmps55
  go_wp2_with fail
  rw [HX.out]
  refine HM.out.mono ?_
  rintro e W ⟨at_, er, rfl, hiff, hg⟩
  have b0 := (hg.block (Array.getElem?_eq_some_iff.1 HB0.out).1).trans HB0.out
  have b1 := (hg.block (Array.getElem?_eq_some_iff.1 HB1.out).1).trans HB1.out
  have gw1 := (G0.out.trans hg).alloc (.cells (bC (midV (bl x))).toArray 67)
  have al := ((Gr.refl W).alloc (.cells (bC (midV (bl x))).toArray 67))
  have d0 := (al.block (Array.getElem?_eq_some_iff.1 b0).1).trans b0
  have d1 := (al.block (Array.getElem?_eq_some_iff.1 b1).1).trans b1
  have HI := Lib.hid hiff
  clear hiff hg HX HM HB0 HB1 G0
  generalize midV (bl x) = i at *
  by_cases he : er = 0
  · have hb : midB (bl x) = true := HI.out.1 he
    subst he
    rw [hb, if_neg (by decide)] at HE
    have e0 := put_target d0 i
    have e1 := (sets_other (b := w.heap.size) (i := w.heap.size + 1) (by omega) (bC i) 1 (W.alloc (.cells (bC i).toArray 67))).trans d1
    have GE0 := gw1.setsOwn (b := w.heap.size) (Nat.le_refl _) (bC i) 1
    have rt := hasRow_block d0 1 32 (by rw [cmC_length]; decide)
    have ft := freeRow_block d0 1 32
    have z9 : w.heap.size < (W.alloc (.cells (bC i).toArray 67)).heap.size := (Array.getElem?_eq_some_iff.1 d0).1
    have z8 : w.heap.size < W.heap.size := (Array.getElem?_eq_some_iff.1 b0).1
    obtain ⟨-, -, -, -, -, -, -, -, t1, t2, -, -, -, -, -, -, -⟩ := cm_facts e0
    obtain ⟨r0, q0, r1, f1, HW, z0, z1⟩ := word_end e0 e1
    have GE := Lib.hid (GE0.setsOwn (b := w.heap.size + 1) (Nat.le_succ _) (cmC { c with target := i } (.slice a n cap)) 0)
    clear b0 b1 gw1 al d0 d1 HI hb e0 e1 GE0
    cases hz : (i == zId) with
    | true =>
      have hz' : i = zId := by simpa using hz
      have HE2 := Lib.hid (HE.out.trans (if_pos hz'))
      clear hz' HE
      go_wp2_with fail
      refine bodyPost_ret (results_cell_tmp (p := 6) (u1 := 7) rfl _ _ (w.heap.size + 1) _ _ _ _ rfl HW.out Tryz.underlying26 rfl (by rw [List.size_toArray, cmC_length]; kernel_rfl)) rfl ?_
      exact HP.out _ _ { c with target := i } _ HE2.out (fun _ => HU.out) rfl HV.out rfl GE.out
    | false =>
      have hz' : ¬ i = zId := by simpa using hz
      have HE2 := Lib.hid (HE.out.trans (if_neg hz'))
      clear hz' HE
      go_wp2_with fail
      refine bodyPost_ret (results_cell_tmp (p := 6) (u1 := 7) rfl _ _ (w.heap.size + 1) _ _ _ _ rfl HW.out Tryz.underlying26 rfl (by rw [List.size_toArray, cmC_length]; kernel_rfl)) rfl ?_
      exact HP.out _ _ { c with target := i } _ HE2.out (fun _ => HU.out) rfl HV.out rfl GE.out
  · have hb : midB (bl x) = false := by
      cases h : midB (bl x) with
      | false => rfl
      | true => exact absurd (HI.out.2 h) he
    rw [hb, if_pos rfl] at HE
    have y1 : (er == 0) = false := by simpa using he
    have y2 : (er != 0) = true := by simpa using he
    obtain ⟨r0, q0, r1, f1, HW, z0, z1⟩ := word_end d0 d1
    have GE := Lib.hid (gw1.setsOwn (b := w.heap.size + 1) (Nat.le_succ _) (cmC c (.slice a n cap)) 0)
    clear b0 b1 gw1 al d0 d1 HI hb he
    go_wp2_with fail
    refine bodyPost_ret (results_cell_tmp (p := 6) (u1 := 7) rfl _ _ (w.heap.size + 1) _ _ _ _ rfl HW.out Tryz.underlying26 rfl (by rw [List.size_toArray, cmC_length]; kernel_rfl)) rfl ?_
    exact HP.out _ _ c _ HE.out (fun h => by cases h) rfl HV.out rfl GE.out
/-- The end of a region, in a world that R tells of. -/
def AtEndP (A : Act) (R : World → Prop) (e : Exit) (a : Act) (w : World) : Prop := match e with | .normal => R w ∧ a = A | _ => False
theorem wp_toP {P : Program} {c : Code} {Q' : Exit → Act → World → Prop} {a : Act} {w : World} (A : Act) (R : World → Prop) (h : c.wp P (AtEndP A R) a w) (hq : ∀ W, R W → Q' .normal A W) : c.wp P Q' a w :=
  Code.wp_mono (fun e a w h => by cases e <;> first | exact h.elim | (obtain ⟨h2, h3⟩ := h; subst h3; exact hq w h2)) h
theorem put_height {w : World} {b : Nat} {c : Cm} {v : Value} {t : TypeId} (h : w.heap[b]? = some (.cells (cmC c v).toArray t (0, 0))) (n : Int) : (w.setCell ⟨b, 39, none⟩ (.int .i64 n)).heap[b]? = some (.cells (cmC { c with height := n } v).toArray t (0, 0)) := put_cm h 39 _ (by rw [cm_set _ _ _ _ (by decide)]; rfl)
theorem put_root {w : World} {b : Nat} {c : Cm} {v : Value} {t : TypeId} (h : w.heap[b]? = some (.cells (cmC c v).toArray t (0, 0))) (r : Aut) : (w.setCells b 40 (bC r)).heap[b]? = some (.cells (cmC { c with root := r } v).toArray t (0, 0)) := by
  have e := sets_block b t [] (bC r) ([Value.int .i64 c.kind] ++ (bC c.target ++ ([Value.string c.group, .int .i64 c.version, .bool c.moderated, v, .string c.text, .int .i64 c.number] ++ [Value.int .i64 c.height]))) (bC c.root) w (by rw [bC_length, bC_length]) (by rw [cm_pre2] at h; exact h)
  have e40 : ([Value.int .i64 c.kind] ++ (bC c.target ++ ([Value.string c.group, .int .i64 c.version, .bool c.moderated, v, .string c.text, .int .i64 c.number] ++ [Value.int .i64 c.height])) : List Value).length = 40 := by simp [bC_length]
  rw [e40] at e
  rw [cm_pre2 { c with root := r } v]; exact e
set_option maxRecDepth 100000 in
set_option maxHeartbeats 4000000 in
theorem wordPub (c : Cm) (v : Value) (x : ByteArray) (w : World) (hv : AutsAt w v c.mods) (hs : x.size ≤ 1100) : Calls Tryz.prog 55 #[.agg (cmC c v).toArray, .string ⟨#[112, 117, 98, 108, 105, 99]⟩, .string x] w (WdPost .pub c v (bl x) w) := by
  have HP : Hid (∀ W' v', AutsAt w v' c.mods → v' = v → Gr w W' → WdPost .pub c v (bl x) w (.returned (.tuple #[.agg (cmC { c with height := pubH (bl x), root := pubR (bl x) } v').toArray, .int .i64 (pubE (bl x))])) W') := fun W' v' hv' hve hg => by
    obtain ⟨a, k, rfl, hr⟩ := hv'.gr hg
    exact ⟨_, a, _, k, rfl, fun _ => ⟨rfl, ⟨a, k, rfl, hr⟩, fun _ => hve, fun q => (by cases q)⟩, hg⟩
  have HV := Lib.hid hv
  obtain ⟨a, cap, rfl, -⟩ := hv
  have HB0 := Lib.hid (heap_alloc2_old w (.cells (cmC c (.slice a (c.mods.map bC).length cap)).toArray 26) (.cells (cmC (cm0 0) nilV).toArray 26))
  have HB1 := Lib.hid (heap_alloc2_new w (.cells (cmC c (.slice a (c.mods.map bC).length cap)).toArray 26) (.cells (cmC (cm0 0) nilV).toArray 26))
  have G0 := Lib.hid (((Gr.refl w).alloc (.cells (cmC c (.slice a (c.mods.map bC).length cap)).toArray 26)).alloc (.cells (cmC (cm0 0) nilV).toArray 26))
  have HM := Lib.hid (refPubC x ((w.alloc (.cells (cmC c (.slice a (c.mods.map bC).length cap)).toArray 26)).alloc (.cells (cmC (cm0 0) nilV).toArray 26)) hs)
  unfold PubRPost at HM
  generalize (c.mods.map bC).length = n at *
  generalize pubH (bl x) = ph at *
  generalize pubR (bl x) = pr at *
  generalize pubE (bl x) = pe at *
  generalize hX : (w.alloc (.cells (cmC c (.slice a n cap)).toArray 26)).alloc (.cells (cmC (cm0 0) nilV).toArray 26) = X at *
  have HX := Lib.hid hX
  clear hX
  go_enter Tryz.func55, Tryz.ntmps55
  go_wp2_with fail
  rw [HX.out]
  refine HM.out.mono ?_
  rintro e W ⟨rfl, hg⟩
  have b0 := (hg.block (Array.getElem?_eq_some_iff.1 HB0.out).1).trans HB0.out
  have b1 := (hg.block (Array.getElem?_eq_some_iff.1 HB1.out).1).trans HB1.out
  have HGW := Lib.hid ((G0.out.trans hg).alloc (.cells (bC pr).toArray 24))
  have al := ((Gr.refl W).alloc (.cells (bC pr).toArray 24))
  have d0 := (al.block (Array.getElem?_eq_some_iff.1 b0).1).trans b0
  have d1 := (al.block (Array.getElem?_eq_some_iff.1 b1).1).trans b1
  clear hg HX HM HB0 HB1 G0 al
  have z9 : w.heap.size < (W.alloc (.cells (bC pr).toArray 24)).heap.size := (Array.getElem?_eq_some_iff.1 d0).1
  have z8 : w.heap.size < W.heap.size := (Array.getElem?_eq_some_iff.1 b0).1
  clear b0 b1
  go_wp2_with fail
  generalize hY : W.alloc (.cells (bC pr).toArray 24) = Y at *
  have bY : Y.heap[W.heap.size]? = some (.cells (bC pr).toArray 24 (0, 0)) := by rw [← hY]; exact heap_alloc_new W _
  clear hY
  have hne : w.heap.size ≠ W.heap.size := by omega
  have c39 := (cm_facts d0).2.2.2.2.2.2.2.1
  have f39 := free_block d0 39
  have r40 := hasRow_block d0 40 16 (by rw [cmC_length]; decide)
  have fr40 := freeRow_block d0 40 16
  have rY := hasRow_block bY 0 16 (by rw [bC_length]; decide)
  have qY := (rowAt_block bY 0 16 (by rw [bC_length]; decide)).trans (rowOf_all _ _ (bC_length pr))
  have zY : W.heap.size < Y.heap.size := (Array.getElem?_eq_some_iff.1 bY).1
  have e1 := put_height d0 ph
  have r40' := hasRow_block e1 40 16 (by rw [cmC_length]; decide)
  have fr40' := freeRow_block e1 40 16
  have bY' := (heap_setCell_other Y ⟨w.heap.size, 39, none⟩ W.heap.size (.int .i64 ph) (by show W.heap.size ≠ w.heap.size; omega)).trans bY
  have rY' := hasRow_block bY' 0 16 (by rw [bC_length]; decide)
  have qY' := (rowAt_block bY' 0 16 (by rw [bC_length]; decide)).trans (rowOf_all _ _ (bC_length pr))
  have e3 := put_root (w := (Y.setCell ⟨w.heap.size, 39, none⟩ (.int .i64 ph)).drew) e1 pr
  have d3 := (sets_other (b := w.heap.size) (i := w.heap.size + 1) (by omega) (bC pr) 40 (Y.setCell ⟨w.heap.size, 39, none⟩ (.int .i64 ph)).drew).trans ((heap_setCell_other Y ⟨w.heap.size, 39, none⟩ (w.heap.size + 1) (.int .i64 ph) (by show w.heap.size + 1 ≠ w.heap.size; omega)).trans d1)
  have g3 := ((HGW.out.setOwn (b := w.heap.size) (o := 39) (Nat.le_refl _) (.int .i64 ph)).drew).setsOwn (b := w.heap.size) (Nat.le_refl _) (bC pr) 40
  apply wp_to (W := (Y.setCell ⟨w.heap.size, 39, none⟩ (.int .i64 ph)).drew.setCells w.heap.size 40 (bC pr))
  case h =>
    go_region_law (fail)
    all_goals exact ⟨rfl, rfl⟩
  have HE3 := Lib.hid e3
  have HD3 := Lib.hid d3
  have HG3 := Lib.hid g3
  clear e3 d3 g3 e1 r40' fr40' bY' rY' qY' zY rY qY r40 fr40 c39 f39 d0 d1 z9 z8 bY hne HGW
  generalize (Y.setCell ⟨w.heap.size, 39, none⟩ (.int .i64 ph)).drew.setCells w.heap.size 40 (bC pr) = V at *
  obtain ⟨r0, q0, r1, f1, HW, z0, z1⟩ := word_end HE3.out HD3.out
  have GE := Lib.hid (HG3.out.setsOwn (b := w.heap.size + 1) (Nat.le_succ _) (cmC { c with height := ph, root := pr } (.slice a n cap)) 0)
  go_wp2_with fail
  refine bodyPost_ret (results_cell_tmp (p := 6) (u1 := 7) rfl _ _ (w.heap.size + 1) _ _ _ _ rfl HW.out Tryz.underlying26 rfl (by rw [List.size_toArray, cmC_length]; kernel_rfl)) rfl ?_
  exact HP.out _ _ HV.out rfl GE.out
end Go.Proofs.YtcdcmohccbhchaaGreatDoor

namespace Go.Proofs.YtcdcmohccbhchaaGreatDoor
open Go.RowKit

@[local go_sem ↓ high] theorem zeroRCA (w : World) : Sem.run Tryz.prog (zeroValue 26) w = .ok (.agg (cmC (cm0 0) nilV).toArray) w := by kernel_rfl
theorem infoA16 : (Tryz.prog.info? 24).map (fun i => (i.zero, i.size, i.bytes)) = some (some (.agg (bC zAut).toArray), 16, 16) := by kernel_rfl
theorem autsE_bad {x : ByteArray} {k : Nat} (h : k < (commaOf x).length) (hb : (autErr (bl (commaOf x)[k])).2 ≠ 0) : autsE (bl x) = 3 := by
  unfold autsE
  rw [if_pos]
  refine List.any_eq_true.2 ⟨bl (commaOf x)[k], ?_, by simpa using hb⟩
  rw [← comma_split]
  exact List.mem_map.2 ⟨_, List.getElem_mem h, rfl⟩
theorem autsE_good {x : ByteArray} (h : ∀ k (hk : k < (commaOf x).length), (autErr (bl (commaOf x)[k])).2 = 0) : autsE (bl x) = modsErr (autsA (commaOf x)) := by
  have hl : (splitL 44 (bl x)).length = (commaOf x).length := by rw [← comma_split, List.length_map]
  have hp : 0 < (splitL 44 (bl x)).length := List.length_pos_iff.2 (splitL_ne 44 (bl x))
  rw [← autsV_of]
  have hv : (autsV (bl x)).length = (splitL 44 (bl x)).length := by unfold autsV; rw [List.length_map]
  unfold autsE modsErr
  rw [if_neg, hv, if_neg (by omega : ¬ (splitL 44 (bl x)).length = 0)]
  intro ha
  obtain ⟨y, hy, hb⟩ := List.any_eq_true.1 ha
  rw [← comma_split] at hy
  obtain ⟨s, hs, rfl⟩ := List.mem_map.1 hy
  obtain ⟨k, hk, rfl⟩ := List.getElem_of_mem hs
  exact absurd (h k hk) (by simpa using hb)
/-! ### a slice of one author, at the reference's type -/
def bsRA (P : Program) (t : TypeId) (n : Nat) (ps : Array (Nat × Value)) (w : World) : Result Next := (do pure (Next.value (← Instr.buildSlice t n ps)) : Sem Next).run P w
@[local go_sem ↓] theorem exec_bslA {P : Program} (ρ : Operand → Value) (d : Option Tmp) (ps : Array (Nat × Operand)) (ty : TypeId) (p : String) (af : Array Edge) (g : Option (Nat × Bool)) (w : World) :
    Sem.run P (execOp ρ ⟨d, .buildSlice 23 1 ps, ty, p, af, g⟩) w = bsRA P 23 1 (ps.map fun x => (x.1, ρ x.2)) w := rfl
theorem bsa_of {P : Program} {t : TypeId} {n : Nat} {ps : Array (Nat × Value)} {v : Value} {w w' : World} (h : (Instr.buildSlice t n ps).run P w = .ok v w') : bsRA P t n ps w = .ok (.value v) w' := by simp [bsRA, h]
theorem bSlA1F (f : Nat → Value) (w : World) : (Instr.buildSlice 23 1 #[(0, .agg ((List.range 16).map f).toArray)]).run Tryz.prog w = .ok (.slice (some ⟨w.heap.size, 0, none⟩) 1 1) (w.alloc (.cells ((List.range 16).map f).toArray 24)) := by kernel_rfl
@[local go_sem] theorem kSlA1 (y : Aut) (w : World) : bsRA Tryz.prog 23 1 #[(0, .agg (bC y).toArray)] w = .ok (.value (.slice (some ⟨w.heap.size, 0, none⟩) 1 1)) (w.alloc (.cells (bC y).toArray 24)) := bsa_of (by rw [bC_exp]; exact bSlA1F _ w)
set_option maxRecDepth 100000 in
set_option maxHeartbeats 8000000 in
theorem wordAuts (c : Cm) (x : ByteArray) (w : World) (_hc : c.mods = []) (hs : x.size ≤ 1100) : Calls Tryz.prog 55 #[.agg (cmC c nilV).toArray, .string ⟨#[97, 117, 116, 104, 111, 114, 115]⟩, .string x] w (WdPost .authors c nilV (bl x) w) := by
  have HP : Hid (∀ er W' c' a n k, autsE (bl x) = er → (er = 0 → c' = srtU c .authors (bl x) ∧ AutsAt W' (.slice a n k) c'.mods ∧ ∀ y, a = some y → w.heap.size ≤ y.block) → Gr w W' → WdPost .authors c nilV (bl x) w (.returned (.tuple #[.agg (cmC c' (.slice a n k)).toArray, .int .i64 er])) W') := fun er W' c' a n k he hc hg =>
    ⟨c', a, n, k, by rw [show srtE .authors (bl x) = er from he], fun h => ⟨(hc (by rw [← he]; exact h)).1, (hc (by rw [← he]; exact h)).2.1, fun q => absurd rfl q, fun _ => (hc (by rw [← he]; exact h)).2.2⟩, hg⟩
  have HB0 := Lib.hid (heap_alloc2_old w (.cells (cmC c nilV).toArray 26) (.cells (cmC (cm0 0) nilV).toArray 26))
  have HB1 := Lib.hid (heap_alloc2_new w (.cells (cmC c nilV).toArray 26) (.cells (cmC (cm0 0) nilV).toArray 26))
  have G0 := Lib.hid (((Gr.refl w).alloc (.cells (cmC c nilV).toArray 26)).alloc (.cells (cmC (cm0 0) nilV).toArray 26))
  have HW := Lib.hid (refWordsC x 44 44 rfl ((w.alloc (.cells (cmC c nilV).toArray 26)).alloc (.cells (cmC (cm0 0) nilV).toArray 26)) hs)
  have HEB : Hid (∀ k (h : k < (commaOf x).length), (autErr (bl (commaOf x)[k])).2 ≠ 0 → autsE (bl x) = 3) := fun k h hb => autsE_bad h hb
  have HEG : Hid ((∀ k (hk : k < (commaOf x).length), (autErr (bl (commaOf x)[k])).2 = 0) → autsE (bl x) = modsErr (autsA (commaOf x))) := autsE_good
  have HLL : Hid ((commaOf x).length ≤ 1101) := by show _ ≤ _; have := comma_le x; omega
  have HSZ : Hid (∀ s ∈ commaOf x, s.size ≤ 1000000) := fun s hs => by have := comma_short hs; omega
  have HSU : Hid ({ c with mods := autsA (commaOf x) } = srtU c .authors (bl x)) := by show _ = _; rw [← autsV_of]; rfl
  have HCE : Hid (∀ l v, cmC { c with mods := l } v = cmC c v) := fun l v => rfl
  generalize hX : (w.alloc (.cells (cmC c nilV).toArray 26)).alloc (.cells (cmC (cm0 0) nilV).toArray 26) = X at *
  have HX := Lib.hid hX
  clear hX
  have HI := Lib.hid (info_parts infoA16)
  go_enter Tryz.func55, Tryz.ntmps55
  go_wp2_with fail
  rw [HX.out]
  refine HW.out.mono ?_
  rintro e W ⟨l, v, rfl, hl, hO, hg⟩
  obtain ⟨a0, c0, rfl, hj⟩ := hO.slice
  have b0 := Lib.hid ((hg.block (Array.getElem?_eq_some_iff.1 HB0.out).1).trans HB0.out)
  have b1 := Lib.hid ((hg.block (Array.getElem?_eq_some_iff.1 HB1.out).1).trans HB1.out)
  have GW := Lib.hid (G0.out.trans hg)
  have hlc : l = commaOf x := bl_map_inj (hl.trans (comma_split x).symm)
  rw [← hlc] at HEB HEG HLL HSZ HSU
  have HOB : Hid (∀ g, a0 = some ⟨g, 0, none⟩ → w.heap.size + 2 ≤ g) := fun g hg' => by
    subst hg'
    have := (World.ownsRow.lt hO g rfl).1
    have hx2 : X.heap.size = w.heap.size + 2 := by rw [← HX.out]; simp
    omega
  have HJ := Lib.hid hj
  have zW : w.heap.size + 1 < W.heap.size := (Array.getElem?_eq_some_iff.1 b1.out).1
  clear hl hlc hO hj hg HX HW HB0 HB1 G0
  go_wp2_with fail
  go_loopw [12, 13, 14, 15, 94, 95, 96, 97, 98, 99, 100, 101, 102, 103, 104, 105, 106, 107, 108, 109, 110, 112, 113, 114, 115, 116, 117] (fun i _ _ _ _ _ _ _ _ _ _ _ _ _ _ _ _ _ _ _ _ _ _ _ _ _ _ wr => ∃ (k : Nat) (sv : Value), k ≤ l.length ∧ i = .int .i64 k ∧ Hid (Gr w wr) ∧ Hid (wr.heap[w.heap.size]? = some (.cells (cmC c sv).toArray 26 (0, 0))) ∧ Hid (wr.heap[w.heap.size + 1]? = some (.cells (cmC (cm0 0) nilV).toArray 26 (0, 0))) ∧ Hid (wr.ownsRow W.heap.size 24 16 sv k ((autsA (l.take k)).map bC).flatten) ∧ Hid (∀ j (hj : j < l.length), j < k → (autErr (bl l[j])).2 = 0) ∧ Hid (W.heap.size ≤ wr.heap.size ∧ ∀ g, w.heap.size < g → g < W.heap.size → wr.heap[g]? = W.heap[g]?)) (fun i _ _ _ _ _ _ _ _ _ _ _ _ _ _ _ _ _ _ _ _ _ _ _ _ _ _ _ => l.length - (intOf i).toNat)
  case atStart => exact ⟨0, nilV, Nat.zero_le _, rfl, GW.out, b0.out, b1.out, ⟨rfl, .inl ⟨rfl, rfl⟩⟩, fun j _ h => absurd h (Nat.not_lt_zero _), Nat.le_refl _, fun g _ _ => rfl⟩
  case round =>
    obtain ⟨k, sv, hk, rfl, hG, hB0, hB1, hown, hall, hGG⟩ := hrel
    obtain ⟨ka, kc, rfl, -⟩ := owns_slice hown.out
    have hll := HLL.out
    obtain ⟨-, -, -, -, c36, -, -, -, -, -, -, -, -, -, -, -, zb⟩ := cm_facts hB0.out
    by_cases hlt : k < l.length
    · obtain ⟨g, rfl, hgz, hcell⟩ := HJ.out k hlt
      have hg2 := HOB.out g rfl
      have hgr : wr.heap[g]? = W.heap[g]? := hGG.out.2 g (by omega) hgz
      have hcl : wr.cell? ⟨g, k, none⟩ = some (.string l[k]) := by
        rw [← hcell]; unfold World.cell?; rw [hgr]
      have hgw : g < wr.heap.size := Nat.lt_of_lt_of_le hgz hGG.out.1
      have q1 : (k : Int) < (l.length : Int) := by omega
      have q2 : (0 : Int) ≤ (k : Int) := by omega
      have hpa := fun U => refParseC l[k] U (HSZ.out _ (List.getElem_mem hlt))
      unfold paV at hpa
      have HPA := Lib.hid hpa
      have HEK := Lib.hid (HEB.out k hlt)
      have HSK := Lib.hid (autsA_succ hlt)
      have HAL : Hid ((autErr (bl l[k])).2 = 0 → ∀ j (hj : j < l.length), j < k + 1 → (autErr (bl l[j])).2 = 0) := fun h j hj hjk => by
        by_cases e : j = k
        · subst e; exact h
        · exact hall.out j hj (by omega)
      have hlenk : Hid (k ≤ 1101) := by show _ ≤ _; have := HLL.out; omega
      clear hpa hcell hgr hall
      generalize autOf (bl l[k]) = y at *
      generalize autErr (bl l[k]) = ae at *
      obtain ⟨ea, er⟩ := ae
      simp only at HEK HAL HPA
      generalize l[k] = s at *
      go_wp2_with fail
      refine (HPA.out _).mono ?_
      rintro e W2 ⟨rfl, hg3⟩
      have g3 := hg3.trans ((Gr.refl W2).alloc (.cells (bC y).toArray 24))
      have B03 := (g3.block zb).trans hB0.out
      have B13 := (g3.block (Array.getElem?_eq_some_iff.1 hB1.out).1).trans hB1.out
      have G3 := Lib.hid (hG.out.trans g3)
      by_cases her : er = 0
      · subst her
        have HAL' := Lib.hid (HAL.out rfl)
        have g4 := g3.trans ((Gr.refl (W2.alloc (.cells (bC y).toArray 24))).alloc (.cells (bC y).toArray 24))
        have O4 := Lib.hid (World.ownsRow.kept hown.out g4.grownBy (by cases (Value.slice ka k kc).ownBlock <;> simp))
        have B04 := Lib.hid ((g4.block zb).trans hB0.out)
        have B14 := Lib.hid ((g4.block (Array.getElem?_eq_some_iff.1 hB1.out).1).trans hB1.out)
        have G4 := Lib.hid (hG.out.trans g4)
        have N4 := Lib.hid (news_at (W2.alloc (.cells (bC y).toArray 24)) y 24 (W2.heap.size + 1) (by simp))
        have Z4 : Hid (W.heap.size ≤ ((W2.alloc (.cells (bC y).toArray 24)).alloc (.cells (bC y).toArray 24)).heap.size) := Nat.le_trans hGG.out.1 g4.size
        have HOW : Hid (∀ k', (Value.slice ka k kc).ownBlock = some k' → W.heap.size ≤ k') := fun k' hk' => (hown.out.lt k' hk').1
        have c36' : (W2.alloc (.cells (bC y).toArray 24)).cell? ⟨w.heap.size, 36, none⟩ = some (.slice ka k kc) := (g3.cell (p := ⟨w.heap.size, 36, none⟩) zb).trans c36
        have zb3 : w.heap.size < (W2.alloc (.cells (bC y).toArray 24)).heap.size := Nat.lt_of_lt_of_le zb g3.size
        have zb2 : w.heap.size < W2.heap.size := Nat.lt_of_lt_of_le zb hg3.size
        have G4S := Lib.hid g4.size
        have G4B : Hid (∀ g, g < wr.heap.size → ((W2.alloc (.cells (bC y).toArray 24)).alloc (.cells (bC y).toArray 24)).heap[g]? = wr.heap[g]?) := fun g hg => g4.block hg
        clear B03 B13 g3 hg3 g4 c36 hown HEK HAL
        obtain ⟨i0, hi, hz0, hz1, hz2⟩ := HI.out
        go_wp2_with (at_builtin; refine wpList_append_own _ rfl _ _ 23 rfl W.heap.size 24 i0 _ 16 16 Tryz.underlying23 hi hz0 hz1 hz2 rfl (by decide) (.slice ka k kc) k ((autsA (l.take k)).map bC).flatten rfl O4.out ⟨W2.heap.size + 1, 0, none⟩ 1 1 (bC y) rfl (by rw [bC_length]) N4.out (one_bC y) (by have := hlenk.out; unfold maxLen; omega) (by have := hlenk.out; omega) Z4.out ?_; intro v' w8 hown8 hgrow8 hnil8; obtain ⟨ka2, kc2, hv2, -⟩ := owns_slice hown8; subst hv2; have hb8 := (hgrow8.block w.heap.size (by simp; omega) (fun e => by have := HOW.out _ e.symm; omega)).trans B04.out; have d36 : w8.cell? ⟨w.heap.size, 36, none⟩ = some (.slice ka k kc) := (cm_facts hb8).2.2.2.2.1; have f36 := free_block hb8 36; have z36 := (Array.getElem?_eq_some_iff.1 hb8).1; have HO8 := Lib.hid hown8; have HGR8 := Lib.hid hgrow8; have HB8 := Lib.hid hb8; clear hown8 hgrow8 hnil8 hb8)
        have G8 := Lib.hid (G4.out.grown HGR8.out (fun k' hk' => by have := HOW.out k' hk'; omega))
        go_roundw
        case rel =>
          refine ⟨k + 1, (.slice ka2 (k + 1) kc2), by omega, by go_num, G8.out.setOwn (Nat.le_refl _) _, put_mods HB8.out (.slice ka2 (k + 1) kc2), ?_, ?_, HAL'.out, ?_, ?_⟩
          · exact (heap_setCell_other w8 ⟨w.heap.size, 36, none⟩ (w.heap.size + 1) (.slice ka2 (k + 1) kc2) (by show w.heap.size + 1 ≠ w.heap.size; omega)).trans ((HGR8.out.block _ (Array.getElem?_eq_some_iff.1 B14.out).1 (fun e => by have := HOW.out _ e.symm; omega)).trans B14.out)
          · show World.ownsRow _ _ _ _ _ _ _
            rw [HSK.out]
            refine World.ownsRow.kept (w := w8) (row := some w.heap.size) HO8.out ⟨rfl, rfl, rfl, by simp, fun i hi hn => heap_setCell_other w8 ⟨w.heap.size, 36, none⟩ i (.slice ka2 (k + 1) kc2) (fun e => hn (by rw [e]))⟩ ?_
            cases hob : (Value.slice ka2 (k + 1) kc2).ownBlock with
            | none => exact .inl rfl
            | some q =>
              right
              intro e
              have h1 : q = w.heap.size := by cases e; rfl
              have := (World.ownsRow.lt HO8.out q hob).1
              omega
          · have h1 := HGR8.out.size
            have h2 := Z4.out
            show W.heap.size ≤ (w8.setCell ⟨w.heap.size, 36, none⟩ (.slice ka2 (k + 1) kc2)).heap.size
            simp; omega
          · intro g' hg1 hg2'
            refine (heap_setCell_other w8 ⟨w.heap.size, 36, none⟩ g' (.slice ka2 (k + 1) kc2) (by show g' ≠ w.heap.size; omega)).trans ((HGR8.out.block g' (by have := Z4.out; omega) (fun e => by have := HOW.out _ e.symm; omega)).trans ((G4B.out g' (by have := hGG.out.1; omega)).trans (hGG.out.2 g' hg1 hg2')))
        case measure => simp [intOf]; omega
      · have y1 : (er == 0) = false := by simpa using her
        have y2 : (er != 0) = true := by simpa using her
        have HE := Lib.hid (HEK.out her)
        obtain ⟨r0, q0, r1, f1, HWW, z0, z1⟩ := word_end B03 B13
        have GE := Lib.hid (G3.out.setsOwn (b := w.heap.size + 1) (Nat.le_succ _) (cmC c (.slice ka k kc)) 0)
        have zb2 : w.heap.size < W2.heap.size := Nat.lt_of_lt_of_le zb hg3.size
        clear B03 B13 g3 hg3 hown HEK HAL her
        go_wp2_with fail
        refine bodyPost_ret (results_cell_tmp (p := 6) (u1 := 7) rfl _ _ (w.heap.size + 1) _ _ _ _ rfl HWW.out Tryz.underlying26 rfl (by rw [List.size_toArray, cmC_length]; kernel_rfl)) rfl ?_
        exact HP.out _ _ c _ _ _ HE.out (fun h => by cases h) GE.out
    · have q1 : ¬ (k : Int) < (l.length : Int) := by omega
      have hkl : k = l.length := by omega
      have HE := Lib.hid (HEG.out (fun j hj => hall.out j hj (by omega)))
      have htk : l.take k = l := List.take_of_length_le (by omega)
      have HAU : Hid (AutsAt wr (.slice ka k kc) (autsA l)) := by
        refine slAt_of_owns (base := W.heap.size) (e := 24) (map_bC_len (autsA l)) ?_
        rw [List.length_map, autsA_len, ← hkl]
        have := hown.out
        rwa [htk] at this
      have HOW : Hid (∀ k', (Value.slice ka k kc).ownBlock = some k' → W.heap.size ≤ k') := fun k' hk' => (hown.out.lt k' hk').1
      have HMC : Hid (∀ U, Gr wr U → Calls Tryz.prog 48 #[.slice ka k kc] U fun e w' => e = .returned (.int .i64 (modsErr (autsA l))) ∧ Gr U w') := fun U hU => refModsC (autsA l) _ U (HAU.out.gr hU) (by rw [autsA_len]; have := HLL.out; omega)
      have hb0 := hB0.out
      have hb1 := hB1.out
      have KS : Hid (∀ U, Gr wr U → U.heap[w.heap.size]? = some (.cells (cmC c (.slice ka k kc)).toArray 26 (0, 0)) ∧ U.heap[w.heap.size + 1]? = some (.cells (cmC (cm0 0) nilV).toArray 26 (0, 0))) := fun U h => ⟨(h.block (Array.getElem?_eq_some_iff.1 hb0).1).trans hb0, (h.block (Array.getElem?_eq_some_iff.1 hb1).1).trans hb1⟩
      have HMG : Hid (∀ p : GD, Calls Tryz.prog 48 #[.slice ka k kc] (gw wr p) fun e w'' => e = .returned (.int .i64 (modsErr (autsA l))) ∧ ∃ q : GD, w'' = gw wr q) := fun p => gr_call (HMC.out _ (gr_gw wr p))
      obtain ⟨r0, q0, r1, f1, -, z0, z1⟩ := word_end hb0 hb1
      clear hb0 hb1 HMC hown hall htk hkl hB0 hB1 hGG HEB HEG
      go_wp2_with fail
      refine wp_region_tail 4 (fun u => ∃ p : GD, u = gw wr p) (by kernel_rfl) (by kernel_rfl) (cg_drew wr) ?_
      simp only [List.take_succ_cons, List.take_zero, List.drop_succ_cons, List.drop_zero]
      repeat (go_big_quiet_step ((go_at_call 48; with_reducible exact HMG.out _)))
      refine wpQuiet_nil ?_
      rintro _ ⟨p, rfl⟩
      have gU := gr_gw wr p
      obtain ⟨u0, u1⟩ := KS.out _ gU
      have GU := Lib.hid (hG.out.trans gU)
      have HAU2 := Lib.hid (HAU.out.gr gU)
      clear gU r0 q0 r1 f1 z0 z1 c36 zb
      generalize gw wr p = U at *
      obtain ⟨r0, q0, r1, f1, HWW, z0, z1⟩ := word_end u0 u1
      have GE := Lib.hid (GU.out.setsOwn (b := w.heap.size + 1) (Nat.le_succ _) (cmC c (.slice ka k kc)) 0)
      have HA3 : Hid (AutsAt (U.setCells (w.heap.size + 1) 0 (cmC c (.slice ka k kc))) (.slice ka k kc) (autsA l)) := by
        refine SlAt.keep HAU2.out (fun y hy => sets_other (by have := HOW.out y.block (by rw [hy]; rfl); omega) _ _ _) ?_
        rw [sets_size]; exact Nat.le_refl _
      clear u0 u1
      go_wp2_with fail
      refine bodyPost_ret (results_cell_tmp (p := 6) (u1 := 7) rfl _ _ (w.heap.size + 1) _ _ _ _ rfl HWW.out Tryz.underlying26 rfl (by rw [List.size_toArray, cmC_length]; kernel_rfl)) rfl ?_
      exact HP.out _ _ { c with mods := autsA l } _ _ _ HE.out (fun _ => ⟨HSU.out, HA3.out, fun y hy => by have := HOW.out y.block (by rw [hy]; rfl); omega⟩) GE.out
theorem wordC (t : Srt) (c : Cm) (v : Value) (x : ByteArray) (w : World) (hv : AutsAt w v c.mods) (ha : t = .authors → c.mods = [] ∧ v = nilV) (hs : x.size ≤ 1100) : Calls Tryz.prog 55 #[.agg (cmC c v).toArray, .string (sortS t), .string x] w (WdPost t c v (bl x) w) := by
  cases t with
  | target => exact wordTarget c v x w hv hs
  | group => exact wordGroup c v x w hv
  | version => exact wordVersion c v x w hv
  | number => exact wordNumber c v x w hv
  | mode => exact wordMode c v x w hv
  | authors =>
    obtain ⟨h1, h2⟩ := ha rfl
    subst h2
    exact wordAuts c x w h1 hs
  | pub => exact wordPub c v x w hv hs
end Go.Proofs.YtcdcmohccbhchaaGreatDoor

namespace Go.Proofs.YtcdcmohccbhchaaGreatDoor
open Go.RowKit

@[local go_sem ↓ high] theorem zeroRCP (w : World) : Sem.run Tryz.prog (zeroValue 26) w = .ok (.agg (cmC (cm0 0) nilV).toArray) w := by kernel_rfl
theorem kindK_some {w : Str} {k : Fin 5} : kindK w = some k ↔ bl (keyK k) = w := by
  constructor
  · intro h
    have := List.find?_some h
    simpa using this
  · intro h
    cases hk : kindK w with
    | none =>
      have := List.find?_eq_none.1 hk k (List.mem_finRange k)
      exact absurd (by simpa using h) this
    | some j =>
      have hj := List.find?_some hk
      have hj' : bl (keyK j) = w := by simpa using hj
      rw [keyK_inj j k (bl_inj (hj'.trans h.symm))]
def kdOf (w : Str) : Nat := match kindK w with
  | some k => k.val + 1
  | none => 0
theorem kd_iff (w : Str) (i : Nat) (h1 : 1 ≤ i) (h5 : i ≤ 5) : bl (kindS (i : Int)) = w ↔ kdOf w = i := by
  have e : keyK ⟨i - 1, by omega⟩ = kindS (i : Int) := by
    show kindS (((i - 1 : Nat) : Int) + 1) = _
    rw [show ((i - 1 : Nat) : Int) + 1 = (i : Int) by omega]
  rw [← e, ← kindK_some]
  unfold kdOf
  constructor
  · intro h; rw [h]; simp; omega
  · intro h
    cases hk : kindK w with
    | none => rw [hk] at h; simp only at h; omega
    | some j =>
      rw [hk] at h
      simp only at h
      congr 1
      apply Fin.ext
      simp; omega
theorem kd_le (w : Str) : kdOf w ≤ 5 := by
  unfold kdOf
  cases kindK w with
  | none => exact Nat.zero_le _
  | some k => have := k.isLt; simp only; omega
theorem grown_at {w w1 : World} {b : Nat} (h : w.grownBy w1 (some b)) (o : Nat) (u : Value) : w.grownBy (w1.setCell ⟨b, o, none⟩ u) (some b) :=
  ⟨h.os, h.tape, h.output, by simpa using h.size, fun i hi hn => (heap_setCell_other w1 ⟨b, o, none⟩ i u (fun e => hn (by rw [e]))).trans (h.block i hi hn)⟩
theorem grown_ats {w : World} {b : Nat} : ∀ (l : List Value) (k : Nat) (w1 : World), w.grownBy w1 (some b) → w.grownBy (w1.setCells b k l) (some b)
  | [], _, _, h => h
  | v :: l, k, w1, h => grown_ats l (k + 1) (w1.setCell ⟨b, k, none⟩ v) (grown_at h k v)
def AtEndX (A : Nat → Cm → Option Addr → Nat → Nat → Act) (R : Nat → Cm → Option Addr → Nat → Nat → World → Prop) (e : Exit) (a : Act) (w : World) : Prop := match e with | .normal => ∃ g c x n k, R g c x n k w ∧ a = A g c x n k | _ => False
theorem wp_toX {P : Program} {c : Code} {Q' : Exit → Act → World → Prop} {a : Act} {w : World} (A : Nat → Cm → Option Addr → Nat → Nat → Act) (R : Nat → Cm → Option Addr → Nat → Nat → World → Prop) (h : c.wp P (AtEndX A R) a w) (hq : ∀ g c x n k W, R g c x n k W → Q' .normal (A g c x n k) W) : c.wp P Q' a w :=
  Code.wp_mono (fun e a w h => by cases e <;> first | exact h.elim | (obtain ⟨g, c, x, n, k, h2, h3⟩ := h; subst h3; exact hq g c x n k w h2)) h
theorem splitL_len (c : UInt8) : ∀ s : Str, (splitL c s).length ≤ s.length + 1
  | [] => Nat.le_refl _
  | x :: xs => by
    have ih := splitL_len c xs
    rw [splitL]
    split
    · simp; omega
    · split
      · simp
      · rename_i h; rw [h] at ih; simp at ih ⊢; omega
theorem runR_skip {n : Nat} {L : List Srt} {c : Cm} {f : Nat} {R : List Str} (h : c.moderated = false) : runR n (.authors :: L) c f R = runR n L c f R := by
  rw [runR.eq_def]; exact if_pos ⟨rfl, h⟩
theorem runR_none {n : Nat} {t : Srt} {L : List Srt} {c : Cm} {f : Nat} (h : ¬ (t = .authors ∧ c.moderated = false)) : runR n (t :: L) c f [] = .inl (n, 4) := by
  rw [runR.eq_def]; exact if_neg h
theorem runR_one {n : Nat} {t : Srt} {L : List Srt} {c : Cm} {f : Nat} {x : Str} {R : List Str} (h : ¬ (t = .authors ∧ c.moderated = false)) : runR n (t :: L) c f (x :: R) = if srtE t x ≠ 0 then .inl (f + 1, srtE t x) else runR n L (srtU c t x) (f + 1 + x.length) R := by
  rw [runR.eq_def]; exact if_neg h
theorem srtU_kind (c : Cm) (t : Srt) (x : Str) : (srtU c t x).kind = c.kind := by cases t <;> rfl
theorem srtU_mods (c : Cm) (t : Srt) (x : Str) (h : t ≠ .authors) : (srtU c t x).mods = c.mods := by cases t <;> first | rfl | exact absurd rfl h
theorem stC_new (w : World) (z c : Cm) (v : Value) (a : Option Addr) (n k : Nat) : Sem.run Tryz.prog (storeCells ⟨w.heap.size, 0, none⟩ (cmC c (.slice a n k))) (w.alloc (.cells (cmC z v).toArray 26)) = .ok () (w.alloc (.cells (cmC c (.slice a n k)).toArray 26)) := by
  have hb := heap_alloc_new w (.cells (cmC z v).toArray 26)
  have h := run_stCells (P := Tryz.prog) (cs := cmC c (.slice a n k)) (hasRow_block hb 0 (cmC c (.slice a n k)).length (by rw [cmC_length, cmC_length]; decide)) (freeRow_block hb 0 _) (oneCmS c a n k)
  rw [h]
  congr 1
  have := setCells_mid w 26 w.heap.size rfl [] (cmC c (.slice a n k)) [] (cmC z v) (by rw [cmC_length, cmC_length])
  simpa using this
theorem stC_old {w : World} {b : Nat} {z c : Cm} {v : Value} (h : w.heap[b]? = some (.cells (cmC z v).toArray 26 (0, 0))) (a : Option Addr) (n k : Nat) : Sem.run Tryz.prog (storeCells ⟨b, 0, none⟩ (cmC c (.slice a n k))) w = .ok () (w.setCells b 0 (cmC c (.slice a n k))) :=
  run_stCells (hasRow_block h 0 (cmC c (.slice a n k)).length (by rw [cmC_length, cmC_length]; decide)) (freeRow_block h 0 _) (oneCmS c a n k)
theorem early_at {wr w5 : World} {Z : Obj} (h : Gr (wr.alloc Z).drew w5) : w5.heap[wr.heap.size]? = some Z :=
  (h.block (b := wr.heap.size) (by show _ < (wr.alloc Z).heap.size; simp)).trans (heap_alloc_new wr Z)
/-- What region 21 leaves: the result of word in a block of its own. -/
def WdR (wr : World) (t : Srt) (c : Cm) (v : Value) (x : Str) (g : Nat) (c' : Cm) (a : Option Addr) (n k : Nat) (U : World) : Prop :=
  wr.heap.size ≤ g ∧ U.heap[g]? = some (.cells (cmC c' (.slice a n k)).toArray 26 (0, 0)) ∧ Gr wr U ∧ (srtE t x = 0 → c' = srtU c t x ∧ AutsAt U (.slice a n k) c'.mods ∧ (t ≠ .authors → Value.slice a n k = v) ∧ (t = .authors → ∀ y, a = some y → wr.heap.size ≤ y.block))
theorem wdr_new {wr w5 : World} {t : Srt} {c : Cm} {v : Value} {x : Str} {c5 : Cm} {a : Option Addr} {n k : Nat} {w0 : World} (g0 : Gr wr w0) (gW5 : Gr wr w5)
    (hok : srtE t x = 0 → c5 = srtU c t x ∧ AutsAt w5 (.slice a n k) c5.mods ∧ (t ≠ .authors → Value.slice a n k = v) ∧ (t = .authors → ∀ y, a = some y → w0.heap.size ≤ y.block)) :
    WdR wr t c v x w5.heap.size c5 a n k (w5.alloc (.cells (cmC c5 (.slice a n k)).toArray 26)) :=
  ⟨gW5.size, heap_alloc_new _ _, gW5.alloc _, fun h => by
    obtain ⟨h1, h2, h3, h4⟩ := hok h
    exact ⟨h1, h2.gr ((Gr.refl w5).alloc _), h3, fun e y hy => Nat.le_trans g0.size (h4 e y hy)⟩⟩
theorem wdr_old {wr w5 : World} {t : Srt} {c : Cm} {v : Value} {x : Str} {c5 : Cm} {a : Option Addr} {n k : Nat} {Z : Obj} {zz : Cm} {zv : Value} (hZ : Z = .cells (cmC zz zv).toArray 26 (0, 0)) (hAU : AutsAt wr v c.mods) (hg5 : Gr (wr.alloc Z).drew w5)
    (hok : srtE t x = 0 → c5 = srtU c t x ∧ AutsAt w5 (.slice a n k) c5.mods ∧ (t ≠ .authors → Value.slice a n k = v) ∧ (t = .authors → ∀ y, a = some y → ((wr.alloc Z).drew).heap.size ≤ y.block)) :
    WdR wr t c v x wr.heap.size c5 a n k (w5.setCells wr.heap.size 0 (cmC c5 (.slice a n k))) := by
  have gW5 : Gr wr w5 := (((Gr.refl wr).alloc Z).drew).trans hg5
  have hb := early_at hg5
  rw [hZ] at hb
  have gF := gW5.setsOwn (b := wr.heap.size) (Nat.le_refl _) (cmC c5 (.slice a n k)) 0
  have hsz : ((wr.alloc Z).drew).heap.size = wr.heap.size + 1 := by show (wr.alloc Z).heap.size = _; simp
  refine ⟨Nat.le_refl _, sets_whole hb (by rw [cmC_length, cmC_length]), gF, fun h => ?_⟩
  obtain ⟨h1, h2, h3, h4⟩ := hok h
  refine ⟨h1, ?_, h3, fun e y hy => by have := h4 e y hy; omega⟩
  by_cases e : t = .authors
  · refine SlAt.keep h2 (fun y hy => sets_other (by have := h4 e y hy; omega) _ _ _) ?_
    rw [sets_size]; exact Nat.le_refl _
  · have hm : c5.mods = c.mods := by rw [h1, srtU_mods c t x e]
    have ha := hAU.gr gF
    rw [← h3 e] at ha
    rw [hm]; exact ha
theorem srt_eq (t : Srt) : ((sortS t).toList == [97, 117, 116, 104, 111, 114, 115]) = decide (t = .authors) := by
  rw [bl_toList]
  cases t <;> decide +kernel
theorem put_kind {w : World} {b : Nat} {c : Cm} {v : Value} {t : TypeId} (h : w.heap[b]? = some (.cells (cmC c v).toArray t (0, 0))) (n : Int) : (w.setCell ⟨b, 0, none⟩ (.int .i64 n)).heap[b]? = some (.cells (cmC { c with kind := n } v).toArray t (0, 0)) := put_cm h 0 _ rfl
/-- What is left by the ends of Parse that return nothing. -/
theorem ps_end {W w : World} {b : Nat} (hb : W.heap[b]? = some (.cells (cmC (cm0 0) nilV).toArray 26 (0, 0))) (hg : Gr w W) (hz : w.heap.size ≤ b) (c : Cm) (v : Value) :
    hasRow W ⟨b, 0, none⟩ 56 = true ∧ freeRow W ⟨b, 0, none⟩ 56 = true ∧ Hid ((W.setCells b 0 (cmC c v)).heap[b]? = some (.cells (cmC c v).toArray 26 (0, 0))) ∧ Hid (Gr w (W.setCells b 0 (cmC c v))) ∧ b < W.heap.size :=
  ⟨hasRow_block hb 0 56 (by rw [cmC_length]; decide), freeRow_block hb 0 56, sets_whole hb (by rw [cmC_length, cmC_length]), hg.setsOwn hz _ 0, (Array.getElem?_eq_some_iff.1 hb).1⟩
set_option maxRecDepth 100000 in
set_option maxHeartbeats 16000000 in
theorem refParseAll (s : ByteArray) (w : World) (hs : s.size ≤ 1100) : Calls Tryz.prog 20 #[.string s] w (PrPost (refS (bl s)) w) := by
  have hl := bl_length s
  have HB0 := Lib.hid (heap_alloc_new w (.cells (cmC (cm0 0) nilV).toArray 26))
  have G0 := Lib.hid ((Gr.refl w).alloc (.cells (cmC (cm0 0) nilV).toArray 26))
  by_cases h1000 : 1000 < s.size
  · have HP : Hid (∀ W, Gr w W → PrPost (refS (bl s)) w (.returned (.tuple #[.agg (cmC (cm0 0) nilV).toArray, .int .i64 0, .int .i64 5])) W) := fun W hg => by
      unfold refS
      rw [if_pos (by omega)]
      exact ⟨nilV, rfl, nil_auts _, hg⟩
    have i1 : 1000 < (s.size : Int) := by omega
    clear hl h1000
    go_enter Tryz.func20, Tryz.ntmps20
    go_wp2_with fail
    refine bodyPost_ret (results_cell_tmp2 (p := 2) (u1 := 3) (u2 := 4) rfl _ _ w.heap.size _ _ _ _ rfl HB0.out Tryz.underlying26 rfl (by rw [List.size_toArray, cmC_length]; kernel_rfl)) rfl ?_
    exact HP.out _ G0.out
  · have i1 : ¬ 1000 < (s.size : Int) := by omega
    have HWD := Lib.hid (refWordsC s 32 32 rfl (w.alloc (.cells (cmC (cm0 0) nilV).toArray 26)) hs)
    obtain ⟨w0, ws, hsp⟩ : ∃ w0 ws, splitL 32 (bl s) = w0 :: ws := by
      cases h : splitL 32 (bl s) with
      | nil => exact absurd h (splitL_ne 32 (bl s))
      | cons a l => exact ⟨a, l, rfl⟩
    have HPS : Hid (PSok (bl s) ⟨0, w0.length, ws, 0, 0⟩) := PSok.start hsp
    have HWL : Hid (ws.length ≤ 1100) := by
      show _ ≤ _
      have := splitL_len 32 (bl s)
      rw [hsp, List.length_cons] at this; omega
    have HRS : Hid (refS (bl s) = match kindK w0 with
      | some k => endR k (bl s) (runR s.size (srts k) (cm0 ((k.val : Int) + 1)) w0.length ws)
      | none => (cm0 0, 0, 11)) := by
      show _ = _
      unfold refS
      rw [if_neg (by omega), hsp, hl]; rfl
    have HKD := Lib.hid (kd_iff w0)
    have hkd5 := kd_le w0
    have HKK : Hid (kdOf w0 = 0 → kindK w0 = none) := fun h => by
      unfold kdOf at h
      cases hk : kindK w0 with
      | none => rfl
      | some k => rw [hk] at h; cases h
    have HKS : Hid (kdOf w0 ≠ 0 → ∃ k : Fin 5, kindK w0 = some k ∧ (k.val : Int) + 1 = (kdOf w0 : Int)) := fun h => by
      unfold kdOf at h ⊢
      cases hk : kindK w0 with
      | none => rw [hk] at h; exact absurd rfl h
      | some k => exact ⟨k, rfl, by simp⟩
    generalize kdOf w0 = kd at *
    go_enter Tryz.func20, Tryz.ntmps20
    go_wp2_with fail
    refine HWD.out.mono ?_
    rintro e W ⟨l, v, rfl, hlm, hO, hg⟩
    obtain ⟨a0, c0, rfl, hj⟩ := hO.slice
    rw [hsp] at hlm
    have b0 := Lib.hid ((hg.block (Array.getElem?_eq_some_iff.1 HB0.out).1).trans HB0.out)
    have GW := Lib.hid (G0.out.trans hg)
    have hlp : 0 < l.length := by
      have := congrArg List.length hlm
      simp at this; omega
    obtain ⟨gl, rfl, hgl, hcl0⟩ := hj 0 hlp
    have HJ : Hid (∀ j (hj : j < l.length), W.cell? ⟨gl, j, none⟩ = some (.string l[j])) := fun j hj' => by
      obtain ⟨g', e, _, h⟩ := hj j hj'
      cases e; exact h
    have HLW : Hid (∀ j (hj : j < l.length), ∀ x, (w0 :: ws)[j]? = some x → bl l[j] = x) := fun j hj x hx => by
      rw [← hlm, List.getElem?_map, List.getElem?_eq_getElem hj] at hx
      simpa using hx
    have HLL : Hid (l.length = ws.length + 1) := by
      show _ = _
      have := congrArg List.length hlm
      simpa using this
    have HW0 : Hid (bl l[0] = w0) := HLW.out 0 hlp w0 rfl
    have HLS : Hid (∀ j (hj : j < l.length), l[j].size ≤ 1100) := fun j hj => by
      have hm : bl l[j] ∈ splitL 32 (bl s) := by rw [hsp, ← hlm]; exact List.mem_map.2 ⟨_, List.getElem_mem hj, rfl⟩
      have := split_short _ _ (Nat.le_refl _) _ hm
      rw [bl_length, hl] at this; omega
    have zW : w.heap.size < W.heap.size := (Array.getElem?_eq_some_iff.1 b0.out).1
    have B0' := Lib.hid ((((Gr.refl W).alloc (.cells (cmC (cm0 0) nilV).toArray 26)).block zW).trans b0.out)
    have B1 := Lib.hid (heap_alloc_new W (.cells (cmC (cm0 0) nilV).toArray 26))
    have G1 := Lib.hid ((Gr.refl W).alloc (.cells (cmC (cm0 0) nilV).toArray 26))
    generalize hl0 : l[0] = l0 at *
    have HL0 := Lib.hid hl0
    clear hl0 hj hlm hO hg HWD HB0 G0 hcl0 hl h1000
    go_wp2_with fail
    go_loopw [7, 22, 23, 24, 25, 26, 27, 28, 29, 30, 31, 32, 33] (fun i _ _ _ _ _ _ _ _ _ _ _ _ wr => ∃ i' : Nat, 1 ≤ i' ∧ i' ≤ 6 ∧ i = .int .i64 (i' : Int) ∧ Hid (Gr W wr) ∧ Hid (wr.heap[w.heap.size]? = some (.cells (cmC (cm0 0) nilV).toArray 26 (0, 0))) ∧ Hid (wr.heap[W.heap.size]? = some (.cells (cmC (cm0 (if kd < i' then (kd : Int) else 0)) nilV).toArray 26 (0, 0)))) (fun i _ _ _ _ _ _ _ _ _ _ _ _ _ => 6 - (intOf i).toNat)
    case atStart => exact ⟨1, Nat.le_refl _, by omega, rfl, G1.out, B0'.out, by
      show _ = _
      have : (if kd < 1 then (kd : Int) else 0) = 0 := by split <;> omega
      rw [this]; exact B1.out⟩
    case round =>
      obtain ⟨i, hi1, hi6, rfl, hG, hB0, hB1⟩ := hrel
      have c0' : wr.cell? ⟨gl, 0, none⟩ = some (.string l0) := by
        have := HJ.out 0 hlp
        rw [HL0.out] at this
        exact (hG.out.cell (p := ⟨gl, 0, none⟩) hgl).trans this
      have zg : gl < wr.heap.size := Nat.lt_of_lt_of_le hgl hG.out.size
      have p0 : (0 : Int) < (l.length : Int) := by omega
      by_cases hlt : i ≤ 5
      · have q1 : (i : Int) ≤ 5 := by omega
        have HNM : Hid (∀ p : GD, Calls Tryz.prog 29 #[.int .i64 (i : Int)] (gw wr p) fun e w'' => e = .returned (.string (kindS i)) ∧ ∃ q : GD, w'' = gw wr q) := fun p => gr_call (refNameC i _)
        have hki := HKD.out i hi1 hlt
        by_cases hke : kd = i
        · have hks : kindS i = l0 := bl_inj ((hki.2 hke).trans HW0.out.symm)
          rw [hks] at HNM
          subst hke
          have HKV : Hid ((if kd < kd + 1 then (kd : Int) else 0) = (kd : Int)) := if_pos (Nat.lt_succ_self _)
          clear hki hks
          go_wp2_with fail
          refine wp_region_gr (by kernel_rfl) (by kernel_rfl) ?_
          repeat (go_big_quiet_step ((go_at_call 29; with_reducible exact HNM.out _)))
          refine wpQuiet_nil ?_
          rintro _ ⟨p, rfl⟩
          have gU := gr_gw wr p
          have u0 := (gU.block (Array.getElem?_eq_some_iff.1 hB0.out).1).trans hB0.out
          have u1 := (gU.block (Array.getElem?_eq_some_iff.1 hB1.out).1).trans hB1.out
          have GU := Lib.hid (hG.out.trans gU)
          clear gU c0' zg hG hB0 hB1
          generalize gw wr p = U at *
          obtain ⟨k0, -, -, -, -, -, -, -, -, -, -, -, -, -, -, -, zu⟩ := cm_facts u1
          have f0 := free_block u1 0
          have HU1 := Lib.hid (put_kind u1 (kd : Int))
          have HU0 := Lib.hid ((heap_setCell_other U ⟨W.heap.size, 0, none⟩ w.heap.size (.int .i64 (kd : Int)) (by show w.heap.size ≠ W.heap.size; omega)).trans u0)
          have HGU := Lib.hid (GU.out.setOwn (b := W.heap.size) (o := 0) (Nat.le_refl _) (.int .i64 (kd : Int)))
          clear u0 u1
          go_wp2_with fail
          go_roundw
          case rel => exact ⟨kd + 1, by omega, by omega, by go_num, HGU.out, HU0.out, by show _ = _; rw [HKV.out]; exact HU1.out⟩
          case measure => simp [intOf]; omega
        · have hks : ¬ bl (kindS i) = bl l0 := fun h => hke (hki.1 (h.trans HW0.out))
          have y1 : ((kindS (i : Int)).toList == l0.toList) = false := by rw [bl_toList, bl_toList, beq_eq_false_iff_ne]; exact hks
          have HKV : Hid ((if kd < i + 1 then (kd : Int) else 0) = (if kd < i then (kd : Int) else 0)) := by
            show _ = _
            by_cases h : kd < i
            · rw [if_pos h, if_pos (by omega)]
            · rw [if_neg h, if_neg (by omega)]
          clear hki hks
          generalize kindS (i : Int) = ks at *
          go_wp2_with fail
          refine wp_region_gr (by kernel_rfl) (by kernel_rfl) ?_
          repeat (go_big_quiet_step ((go_at_call 29; with_reducible exact HNM.out _)))
          refine wpQuiet_nil ?_
          rintro _ ⟨p, rfl⟩
          have gU := gr_gw wr p
          have HU0 := Lib.hid ((gU.block (Array.getElem?_eq_some_iff.1 hB0.out).1).trans hB0.out)
          have HU1 := Lib.hid ((gU.block (Array.getElem?_eq_some_iff.1 hB1.out).1).trans hB1.out)
          have HGU := Lib.hid (hG.out.trans gU)
          clear gU c0' zg hG hB0 hB1
          generalize gw wr p = U at *
          go_wp2_with fail
          go_roundw
          case rel => exact ⟨i + 1, by omega, by omega, by go_num, HGU.out, HU0.out, by show _ = _; rw [HKV.out]; exact HU1.out⟩
          case measure => simp [intOf]; omega
      · have hi : i = 6 := by omega
        have q1 : ¬ (i : Int) ≤ 5 := by omega
        rw [if_pos (by omega : kd < i)] at hB1
        obtain ⟨k0, -, -, -, -, -, -, -, -, -, -, -, -, -, -, -, zu⟩ := cm_facts hB1.out
        have GWR := Lib.hid (GW.out.trans hG.out)
        have kk0 : wr.cell? ⟨W.heap.size, 0, none⟩ = some (.int .i64 (kd : Int)) := k0
        clear hi k0
        by_cases hk0 : kd = 0
        · have HK := Lib.hid (HKK.out hk0)
          subst hk0
          obtain ⟨r0, f0, HS, GS, z0⟩ := ps_end (w := w) hB0.out GWR.out (Nat.le_refl _) (cm0 0) nilV
          have HP : Hid (∀ W', Gr w W' → PrPost (refS (bl s)) w (.returned (.tuple #[.agg (cmC (cm0 0) nilV).toArray, .int .i64 0, .int .i64 11])) W') := fun W' hg => by
            rw [HRS.out, HK.out]
            exact ⟨nilV, rfl, nil_auts _, hg⟩
          clear HRS HK HKD HKS HKK hG hB0 hB1
          go_wp2_with fail
          refine bodyPost_ret (results_cell_tmp2 (p := 2) (u1 := 3) (u2 := 4) rfl _ _ w.heap.size _ _ _ _ rfl HS.out Tryz.underlying26 rfl (by rw [List.size_toArray, cmC_length]; kernel_rfl)) rfl ?_
          exact HP.out _ GS.out
        · obtain ⟨k, hk, hkk⟩ := HKS.out hk0
          have HSO := Lib.hid (refSortsC k wr)
          rw [hkk] at HSO
          have HR : Hid (refS (bl s) = endR k (bl s) (runR s.size (srts k) (cm0 (kd : Int)) w0.length ws)) := by
            show _ = _
            rw [HRS.out, hk]; simp only; rw [hkk]
          have HND : Hid (∀ i, (srts k).drop i = .authors :: (srts k).drop (i + 1) → Srt.authors ∉ (srts k).drop (i + 1)) := fun i => by
            have : ∀ k : Fin 5, ∀ i : Fin 5, (srts k).drop i.val = .authors :: (srts k).drop (i.val + 1) → Srt.authors ∉ (srts k).drop (i.val + 1) := by decide
            intro h
            by_cases hi : i < 5
            · exact this k ⟨i, hi⟩ h
            · have hl : (srts k).length ≤ 4 := by
                have : ∀ k : Fin 5, (srts k).length ≤ 4 := by decide
                exact this k
              rw [List.drop_of_length_le (by omega)] at h; cases h
          have HK3 : Hid (k = 2 ↔ (kd : Int) = 3) := by
            show _ ↔ _
            rw [← hkk]
            constructor
            · rintro rfl; rfl
            · intro h; apply Fin.ext; show k.val = 2; omega
          have HLK : Hid ((srts k).length ≤ 4) := by
            have : ∀ k : Fin 5, (srts k).length ≤ 4 := by decide
            exact this k
          have HL0S : Hid (l0.size = w0.length) := by show _ = _; rw [← HW0.out, bl_length]
          have hls0 : l0.size ≤ 1100 := by have := HLS.out 0 hlp; rwa [HL0.out] at this
          have yk : ((kd : Int) == 0) = false := by simp; omega
          have c0' : wr.cell? ⟨gl, 0, none⟩ = some (.string l0) := by
            have := HJ.out 0 hlp
            rw [HL0.out] at this
            exact (hG.out.cell (p := ⟨gl, 0, none⟩) hgl).trans this
          have zg : gl < wr.heap.size := Nat.lt_of_lt_of_le hgl hG.out.size
          have p0 : (0 : Int) < (l.length : Int) := by omega
          rw [← HL0S.out] at HR
          have HPS0 := HPS
          rw [← HL0S.out] at HPS0
          clear HRS HKD HKS HKK hk hkk hk0
          go_wp2_with fail
          refine HSO.out.mono ?_
          rintro e W2 ⟨v2, rfl, hO2, hg2⟩
          obtain ⟨a2, c2, rfl, hj2⟩ := hO2.slice
          have hln : ((srts k).map sortS).length = (srts k).length := List.length_map _
          rw [hln]
          have HJ2 : Hid (∀ j (hj : j < (srts k).length), ∃ g, a2 = some ⟨g, 0, none⟩ ∧ g < W2.heap.size ∧ W.heap.size < g ∧ W2.cell? ⟨g, j, none⟩ = some (.string (sortS (srts k)[j]))) := fun j hj => by
            obtain ⟨g, rfl, h1, h2⟩ := hj2 j (by rw [hln]; exact hj)
            refine ⟨g, rfl, h1, ?_, by rw [h2, List.getElem_map]⟩
            have := (World.ownsRow.lt hO2 g rfl).1
            omega
          have v0 := Lib.hid ((hg2.block (Array.getElem?_eq_some_iff.1 hB0.out).1).trans hB0.out)
          have v1 := Lib.hid ((hg2.block (Array.getElem?_eq_some_iff.1 hB1.out).1).trans hB1.out)
          have GV := Lib.hid (GWR.out.trans hg2)
          have GWV := Lib.hid (hG.out.trans hg2)
          have zV : W.heap.size < W2.heap.size := (Array.getElem?_eq_some_iff.1 v1.out).1
          clear hj2 hO2 hln hG hB0 hB1 hg2 GWR c0' zg kk0 HSO
          generalize hLL : srts k = LL at *
          clear hLL zu
          generalize hR0 : runR s.size LL (cm0 (kd : Int)) l0.size ws = R0 at *
          have HR0 := Lib.hid hR0
          clear hR0
          go_wp2_with fail
          go_loopw [8, 9, 11, 12, 13, 45, 46, 47, 48, 49, 50, 51, 52, 53, 54, 55, 56, 57, 58, 59, 60, 61, 62, 63, 64, 68, 69, 70, 71, 72, 73, 74, 75, 76, 77, 78, 79, 80, 81, 82, 87, 88, 89, 90, 91, 92, 93, 94, 95, 96, 97] (fun sf sn si _ _ _ _ _ _ _ _ _ _ _ _ _ _ _ _ _ _ _ _ _ _ _ _ _ _ _ _ _ _ _ _ _ _ _ _ _ _ _ _ _ _ _ _ _ _ _ _ wr => ∃ (i f n : Nat) (c : Cm) (a : Option Addr) (m cp : Nat), i ≤ LL.length ∧ si = .int .i64 (i : Int) ∧ sf = .int .i64 (f : Int) ∧ sn = .int .i64 (n : Int) ∧ 1 ≤ n ∧ n ≤ l.length ∧ Hid (c.kind = (kd : Int)) ∧ Hid (PSok (bl s) ⟨0, f, (w0 :: ws).drop n, 0, 0⟩) ∧ Hid (runR s.size (LL.drop i) c f ((w0 :: ws).drop n) = R0) ∧ Hid (Gr w wr) ∧ Hid (W2.grownBy wr (some W.heap.size)) ∧ Hid (wr.heap[w.heap.size]? = some (.cells (cmC (cm0 0) nilV).toArray 26 (0, 0))) ∧ Hid (wr.heap[W.heap.size]? = some (.cells (cmC c (.slice a m cp)).toArray 26 (0, 0))) ∧ Hid (AutsAt wr (.slice a m cp) c.mods) ∧ Hid (Srt.authors ∈ LL.drop i → c.mods = [] ∧ Value.slice a m cp = nilV) ∧ Hid (∀ y, a = some y → W.heap.size < y.block)) (fun _ _ si _ _ _ _ _ _ _ _ _ _ _ _ _ _ _ _ _ _ _ _ _ _ _ _ _ _ _ _ _ _ _ _ _ _ _ _ _ _ _ _ _ _ _ _ _ _ _ _ _ => LL.length - (intOf si).toNat)
          case atStart => exact ⟨0, l0.size, 1, cm0 (kd : Int), none, 0, 0, Nat.zero_le _, rfl, rfl, rfl, Nat.le_refl _, hlp, rfl, HPS0.out, HR0.out, GV.out, grown_gr (Gr.refl _), v0.out, v1.out, nil_auts _, fun _ => ⟨rfl, rfl⟩, fun y hy => by cases hy⟩
          case round =>
            obtain ⟨i, f, n, c, a, m, cp, hi, rfl, rfl, rfl, hn1, hn2, hck, hps, hrun, hG, hGR, hB0, hB1, hAU, hAN, hAB⟩ := hrel
            have hB1' := hB1.out
            obtain ⟨k0, -, -, c35, -, -, -, -, -, -, -, -, -, -, r6, q6, z6⟩ := cm_facts hB1'
            rw [hck.out] at k0
            have zb := (Array.getElem?_eq_some_iff.1 hB0.out).1
            have hfs : f ≤ s.size := by have := hps.out.1; rw [bl_length] at this; exact this
            have hll : l.length ≤ 1101 := by have := HLL.out; have := HWL.out; omega
            have hLL4 := HLK.out
            have glw : gl < W2.heap.size := Nat.lt_of_lt_of_le hgl (Nat.le_of_lt zV)
            have hgcell : ∀ j (hj : j < l.length), wr.cell? ⟨gl, j, none⟩ = some (.string l[j]) := fun j hj => by
              rw [← HJ.out j hj]
              have h1 := hGR.out.block gl (Nat.lt_of_lt_of_le hgl GWV.out.size) (by intro e; injection e with e; omega)
              have h2 := GWV.out.block hgl
              unfold World.cell?
              rw [h1, h2]
            have zgl : gl < wr.heap.size := Nat.lt_of_lt_of_le (Nat.lt_of_lt_of_le hgl GWV.out.size) hGR.out.size
            by_cases hlt : i < LL.length
            · obtain ⟨g2, rfl, h1, h2, h3⟩ := HJ2.out i hlt
              have c2' : wr.cell? ⟨g2, i, none⟩ = some (.string (sortS LL[i])) := by
                rw [← h3]
                have := hGR.out.block g2 h1 (by intro e; injection e with e; omega)
                unfold World.cell?
                rw [this]
              have zg2 : g2 < wr.heap.size := Nat.lt_of_lt_of_le h1 hGR.out.size
              have hdrop : LL.drop i = LL[i] :: LL.drop (i + 1) := List.drop_eq_getElem_cons hlt
              have HNDI : Hid (LL[i] = .authors → Srt.authors ∉ LL.drop (i + 1)) := fun e => HND.out i (by rw [hdrop, e])
              rw [hdrop] at hrun hAN
              have q1 : (i : Int) < (LL.length : Int) := by omega
              have q2 : (0 : Int) ≤ (i : Int) := by omega
              generalize LL[i] = t at *
              have hsq := srt_eq t
              clear h3 hdrop
              by_cases hsk : t = .authors ∧ c.moderated = false
              · obtain ⟨rfl, hm⟩ := hsk
                rw [hm] at c35
                have HRN : Hid (runR s.size (LL.drop (i + 1)) c f ((w0 :: ws).drop n) = R0) := (runR_skip hm).symm.trans hrun.out
                have HAN : Hid (Srt.authors ∈ LL.drop (i + 1) → c.mods = [] ∧ Value.slice a m cp = nilV) := fun h => hAN.out (List.mem_cons_of_mem _ h)
                rw [decide_eq_true rfl] at hsq
                generalize sortS .authors = sx at *
                clear hrun hAN hgcell hB1' k0 r6 q6
                go_wp2_with fail
                go_roundw
                case rel => exact ⟨i + 1, f, n, c, a, m, cp, by omega, by go_num, rfl, rfl, hn1, hn2, hck.out, hps.out, HRN.out, hG.out, hGR.out, hB0.out, hB1.out, hAU.out, HAN.out, hAB.out⟩
                case measure => simp [intOf]; omega
              · have hcases : (decide (t = .authors) = false) ∨ (decide (t = .authors) = true ∧ c.moderated = true) := by
                  by_cases e : t = .authors
                  · right
                    refine ⟨decide_eq_true e, ?_⟩
                    cases hm : c.moderated with
                    | true => rfl
                    | false => exact absurd ⟨e, hm⟩ hsk
                  · left; exact decide_eq_false e
                by_cases hend : n = l.length
                · have hdn : (w0 :: ws).drop n = [] := List.drop_of_length_le (by rw [hend, HLL.out]; simp)
                  have HRR : Hid (R0 = .inl (s.size, 4)) := by
                    show _ = _
                    rw [← hrun.out, hdn]; exact runR_none hsk
                  have HP : Hid (∀ W', Gr w W' → PrPost (refS (bl s)) w (.returned (.tuple #[.agg (cmC (cm0 0) nilV).toArray, .int .i64 (s.size : Int), .int .i64 4])) W') := fun W' hg => by
                    rw [HR.out, HRR.out]
                    exact ⟨nilV, rfl, nil_auts _, hg⟩
                  obtain ⟨r0, f0, HS, GS, z0⟩ := ps_end (w := w) hB0.out hG.out (Nat.le_refl _) (cm0 0) nilV
                  have q5 : ((n : Int) == (l.length : Int)) = true := by simp; omega
                  clear hrun hAN hgcell hB1' k0 r6 q6 hdn hsk hend hck hps HR HRR HND HNDI
                  rcases hcases with hd | ⟨hd, hm⟩
                  · rw [hd] at hsq
                    generalize sortS t = sx at *
                    clear hd
                    go_wp2_with fail
                    refine bodyPost_ret (results_cell_tmp2 (p := 2) (u1 := 3) (u2 := 4) rfl _ _ w.heap.size _ _ _ _ rfl HS.out Tryz.underlying26 rfl (by rw [List.size_toArray, cmC_length]; kernel_rfl)) rfl ?_
                    exact HP.out _ GS.out
                  · rw [hd] at hsq
                    rw [hm] at c35
                    generalize sortS t = sx at *
                    clear hd hm
                    go_wp2_with fail
                    refine bodyPost_ret (results_cell_tmp2 (p := 2) (u1 := 3) (u2 := 4) rfl _ _ w.heap.size _ _ _ _ rfl HS.out Tryz.underlying26 rfl (by rw [List.size_toArray, cmC_length]; kernel_rfl)) rfl ?_
                    exact HP.out _ GS.out
                · have hnl : n < l.length := by omega
                  have HDN : Hid ((w0 :: ws).drop n = bl l[n] :: (w0 :: ws).drop (n + 1)) := by
                    show _ = _
                    have hnw : n < (w0 :: ws).length := by rw [List.length_cons, ← HLL.out]; exact hnl
                    rw [List.drop_eq_getElem_cons hnw, HLW.out n hnl _ (List.getElem?_eq_getElem hnw)]
                  have hxs := HLS.out n hnl
                  have cw := hgcell n hnl
                  have HWC : Hid (∀ U, Gr wr U → Calls Tryz.prog 55 #[.agg (cmC c (.slice a m cp)).toArray, .string (sortS t), .string l[n]] U (WdPost t c (.slice a m cp) (bl l[n]) U)) := fun U hU => wordC t c _ l[n] U (hAU.out.gr hU) (fun e => hAN.out (by rw [e]; exact List.mem_cons_self ..)) hxs
                  unfold WdPost at HWC
                  have q5 : ((n : Int) == (l.length : Int)) = false := by simp; omega
                  have q6' : (n : Int) < (l.length : Int) := by omega
                  have q7 : (0 : Int) ≤ (n : Int) := by omega
                  rw [HDN.out] at hrun hps
                  have HRUN : Hid ((if srtE t (bl l[n]) ≠ 0 then Sum.inl (f + 1, srtE t (bl l[n])) else runR s.size (LL.drop (i + 1)) (srtU c t (bl l[n])) (f + 1 + (bl l[n]).length) ((w0 :: ws).drop (n + 1))) = R0) := (runR_one hsk).symm.trans hrun.out
                  have HPN : Hid (PSok (bl s) ⟨0, f + 1 + (bl l[n]).length, (w0 :: ws).drop (n + 1), 0, 0⟩) := (hps.out.cut rfl).2.1
                  have HXL : Hid ((bl l[n]).length = l[n].size) := bl_length _
                  clear hrun hps hgcell hend hB1' HDN
                  generalize l[n] = x at *
                  generalize sortS t = sx at *
                  have KS : Hid (∀ U, Gr wr U → hasRow U ⟨W.heap.size, 0, none⟩ 56 = true ∧ rowAt U ⟨W.heap.size, 0, none⟩ 56 = cmC c (.slice a m cp) ∧ U.cell? ⟨g2, i, none⟩ = some (.string sx) ∧ U.cell? ⟨gl, n, none⟩ = some (.string x)) := fun U h => ⟨(h.hasRow z6).trans r6, (h.rowAt z6).trans q6, (h.cell (p := ⟨g2, i, none⟩) zg2).trans c2', (h.cell (p := ⟨gl, n, none⟩) zgl).trans cw⟩
                  have g0 := (Gr.refl wr).drew
                  have g0' := fun o => ((Gr.refl wr).alloc o).drew
                  rcases hcases with hd | ⟨hd, hm⟩
                  · rw [hd] at hsq
                    clear hd
                    go_wp2_with fail
                    apply wp_toX (R := WdR wr t c (.slice a m cp) (bl x))
                    case h =>
                      go_region_held_law (fun u => hasRow u ⟨W.heap.size, 0, none⟩ 56 = true ∧ rowAt u ⟨W.heap.size, 0, none⟩ 56 = cmC c (.slice a m cp) ∧ u.cell? ⟨g2, i, none⟩ = some (.string sx) ∧ u.cell? ⟨gl, n, none⟩ = some (.string x))
                        (first | with_reducible exact KS.out _ g0 | with_reducible exact KS.out _ (g0' _) | with_reducible exact KS.out _ gW5 | with_reducible exact KS.out _ (gW5.alloc _) | with_reducible exact KS.out _ (gW5.setsOwn (Nat.le_refl _) _ 0))
                        (first | (go_at_call 55; with_reducible refine (HWC.out _ (by first | with_reducible exact g0 | with_reducible exact g0' _)).mono ?_; rintro e w5 ⟨c5, a5, n5, k5, rfl, hok5, hg5⟩; have gW5 : Gr wr w5 := (by first | exact g0.trans hg5 | exact (g0' _).trans hg5); (try (have hsA := stC_old (z := cm0 0) (v := nilV) (c := c5) (early_at hg5) a5 n5 k5)); have hsB := stC_new w5 (cm0 0) c5 nilV a5 n5 k5))
                      · obtain ⟨g, hg⟩ : ∃ g, w5.heap.size = g := ⟨_, rfl⟩
                        rw [hg]
                        exact ⟨g, c5, a5, n5, k5, by rw [← hg]; exact wdr_new g0 gW5 hok5, rfl⟩
                      · exact ⟨wr.heap.size, c5, a5, n5, k5, wdr_old rfl hAU.out hg5 hok5, rfl⟩
                    rintro g c' a' n' k' U ⟨hgz, hgb, hGU, hok⟩
                    have HOK := Lib.hid hok
                    have u0 := (hGU.block zb).trans hB0.out
                    have u1 := (hGU.block z6).trans hB1.out
                    have GU := Lib.hid (hG.out.trans hGU)
                    clear hok
                    by_cases he : srtE t (bl x) = 0
                    · obtain ⟨hc', ha', hs', hb'⟩ := HOK.out he
                      have HRN : Hid (runR s.size (LL.drop (i + 1)) c' (f + 1 + x.size) ((w0 :: ws).drop (n + 1)) = R0) := by
                        have := HRUN.out
                        rw [if_neg (fun q => q he), HXL.out] at this
                        rw [hc']; exact this
                      have HPN' : Hid (PSok (bl s) ⟨0, f + 1 + x.size, (w0 :: ws).drop (n + 1), 0, 0⟩) := by
                        have := HPN.out
                        rwa [HXL.out] at this
                      have HCK : Hid (c'.kind = (kd : Int)) := by show _ = _; rw [hc', srtU_kind]; exact hck.out
                      have HAB : Hid (∀ y, a' = some y → W.heap.size < y.block) := fun y hy => by
                        by_cases e : t = .authors
                        · have := hb' e y hy; omega
                        · have := hs' e
                          injection this with e1
                          exact hAB.out y (by rw [← e1]; exact hy)
                      have HAN' : Hid (Srt.authors ∈ LL.drop (i + 1) → c'.mods = [] ∧ Value.slice a' n' k' = nilV) := fun hm => by
                        by_cases e : t = .authors
                        · exact absurd hm (HNDI.out e)
                        · rw [hc', srtU_mods c t (bl x) e, hs' e]
                          exact hAN.out (List.mem_cons_of_mem _ hm)
                      have rg := hasRow_block hgb 0 56 (by rw [cmC_length]; decide)
                      have qg := (rowAt_block hgb 0 56 (by rw [cmC_length]; decide)).trans (cm_whole c' (.slice a' n' k'))
                      have zg' : g < U.heap.size := (Array.getElem?_eq_some_iff.1 hgb).1
                      have rb := hasRow_block u1 0 56 (by rw [cmC_length]; decide)
                      have fb := freeRow_block u1 0 56
                      have zb6 : W.heap.size < U.heap.size := (Array.getElem?_eq_some_iff.1 u1).1
                      have HU1 := Lib.hid (sets_whole (cs := cmC c' (.slice a' n' k')) u1 (by rw [cmC_length, cmC_length]))
                      have HU0 := Lib.hid ((sets_other (b := W.heap.size) (i := w.heap.size) (by omega) (cmC c' (.slice a' n' k')) 0 U).trans u0)
                      have HGU := Lib.hid (GU.out.setsOwn (b := W.heap.size) (Nat.le_of_lt zW) (cmC c' (.slice a' n' k')) 0)
                      have HGR := Lib.hid (grown_ats (cmC c' (.slice a' n' k')) 0 U (grown_trans hGR.out (grown_gr hGU)))
                      have HAU : Hid (AutsAt (U.setCells W.heap.size 0 (cmC c' (.slice a' n' k'))) (.slice a' n' k') c'.mods) := by
                        refine SlAt.keep ha' (fun y hy => sets_other (by have := HAB.out y hy; omega) _ _ _) ?_
                        rw [sets_size]; exact Nat.le_refl _
                      have cw' : (U.setCells W.heap.size 0 (cmC c' (.slice a' n' k'))).cell? ⟨gl, n, none⟩ = some (.string x) := by
                        rw [← cw, ← hGU.cell (p := ⟨gl, n, none⟩) zgl]
                        have := sets_other (b := W.heap.size) (i := gl) (by omega) (cmC c' (.slice a' n' k')) 0 U
                        unfold World.cell?
                        rw [this]
                      have zz1 : gl < (U.setCells W.heap.size 0 (cmC c' (.slice a' n' k'))).heap.size := by rw [sets_size]; exact Nat.lt_of_lt_of_le zgl hGU.size
                      have w9 : f + 1 + x.size ≤ 10000 := by omega
                      clear HOK hc' ha' hs' hb' u0 u1 hgb hgz hGU GU HRUN HPN HXL
                      rw [he]
                      clear he
                      go_wp2_with fail
                      go_roundw
                      case rel => exact ⟨i + 1, f + 1 + x.size, n + 1, c', a', n', k', by omega, by go_num, by go_num, by go_num, by omega, by omega, HCK.out, HPN'.out, HRN.out, HGU.out, HGR.out, HU0.out, HU1.out, HAU.out, HAN'.out, HAB.out⟩
                      case measure => simp [intOf]; omega
                    · have HRR : Hid (R0 = .inl (f + 1, srtE t (bl x))) := by
                        show _ = _
                        rw [← HRUN.out, if_pos he]
                      have HP : Hid (∀ W', Gr w W' → PrPost (refS (bl s)) w (.returned (.tuple #[.agg (cmC (cm0 0) nilV).toArray, .int .i64 ((f : Int) + 1), .int .i64 (srtE t (bl x))])) W') := fun W' hg => by
                        rw [HR.out, HRR.out]
                        exact ⟨nilV, by simp [endR], nil_auts _, hg⟩
                      obtain ⟨r0, f0, HS, GS, z0⟩ := ps_end (w := w) u0 GU.out (Nat.le_refl _) (cm0 0) nilV
                      have y1 : (srtE t (bl x) == 0) = false := by simpa using he
                      have y2 : (srtE t (bl x) != 0) = true := by simpa using he
                      clear HOK u0 u1 hgb hgz hGU HRUN HPN HXL HR HRR he
                      generalize srtE t (bl x) = er at *
                      go_wp2_with fail
                      refine bodyPost_ret (results_cell_tmp2 (p := 2) (u1 := 3) (u2 := 4) rfl _ _ w.heap.size _ _ _ _ rfl HS.out Tryz.underlying26 rfl (by rw [List.size_toArray, cmC_length]; kernel_rfl)) rfl ?_
                      exact HP.out _ GS.out
                  · rw [hd] at hsq
                    rw [hm] at c35
                    clear hd hm
                    go_wp2_with fail
                    apply wp_toX (R := WdR wr t c (.slice a m cp) (bl x))
                    case h =>
                      go_region_held_law (fun u => hasRow u ⟨W.heap.size, 0, none⟩ 56 = true ∧ rowAt u ⟨W.heap.size, 0, none⟩ 56 = cmC c (.slice a m cp) ∧ u.cell? ⟨g2, i, none⟩ = some (.string sx) ∧ u.cell? ⟨gl, n, none⟩ = some (.string x))
                        (first | with_reducible exact KS.out _ g0 | with_reducible exact KS.out _ (g0' _) | with_reducible exact KS.out _ gW5 | with_reducible exact KS.out _ (gW5.alloc _) | with_reducible exact KS.out _ (gW5.setsOwn (Nat.le_refl _) _ 0))
                        (first | (go_at_call 55; with_reducible refine (HWC.out _ (by first | with_reducible exact g0 | with_reducible exact g0' _)).mono ?_; rintro e w5 ⟨c5, a5, n5, k5, rfl, hok5, hg5⟩; have gW5 : Gr wr w5 := (by first | exact g0.trans hg5 | exact (g0' _).trans hg5); (try (have hsA := stC_old (z := cm0 0) (v := nilV) (c := c5) (early_at hg5) a5 n5 k5)); have hsB := stC_new w5 (cm0 0) c5 nilV a5 n5 k5))
                      · obtain ⟨g, hg⟩ : ∃ g, w5.heap.size = g := ⟨_, rfl⟩
                        rw [hg]
                        exact ⟨g, c5, a5, n5, k5, by rw [← hg]; exact wdr_new g0 gW5 hok5, rfl⟩
                      · exact ⟨wr.heap.size, c5, a5, n5, k5, wdr_old rfl hAU.out hg5 hok5, rfl⟩
                    rintro g c' a' n' k' U ⟨hgz, hgb, hGU, hok⟩
                    have HOK := Lib.hid hok
                    have u0 := (hGU.block zb).trans hB0.out
                    have u1 := (hGU.block z6).trans hB1.out
                    have GU := Lib.hid (hG.out.trans hGU)
                    clear hok
                    by_cases he : srtE t (bl x) = 0
                    · obtain ⟨hc', ha', hs', hb'⟩ := HOK.out he
                      have HRN : Hid (runR s.size (LL.drop (i + 1)) c' (f + 1 + x.size) ((w0 :: ws).drop (n + 1)) = R0) := by
                        have := HRUN.out
                        rw [if_neg (fun q => q he), HXL.out] at this
                        rw [hc']; exact this
                      have HPN' : Hid (PSok (bl s) ⟨0, f + 1 + x.size, (w0 :: ws).drop (n + 1), 0, 0⟩) := by
                        have := HPN.out
                        rwa [HXL.out] at this
                      have HCK : Hid (c'.kind = (kd : Int)) := by show _ = _; rw [hc', srtU_kind]; exact hck.out
                      have HAB : Hid (∀ y, a' = some y → W.heap.size < y.block) := fun y hy => by
                        by_cases e : t = .authors
                        · have := hb' e y hy; omega
                        · have := hs' e
                          injection this with e1
                          exact hAB.out y (by rw [← e1]; exact hy)
                      have HAN' : Hid (Srt.authors ∈ LL.drop (i + 1) → c'.mods = [] ∧ Value.slice a' n' k' = nilV) := fun hm => by
                        by_cases e : t = .authors
                        · exact absurd hm (HNDI.out e)
                        · rw [hc', srtU_mods c t (bl x) e, hs' e]
                          exact hAN.out (List.mem_cons_of_mem _ hm)
                      have rg := hasRow_block hgb 0 56 (by rw [cmC_length]; decide)
                      have qg := (rowAt_block hgb 0 56 (by rw [cmC_length]; decide)).trans (cm_whole c' (.slice a' n' k'))
                      have zg' : g < U.heap.size := (Array.getElem?_eq_some_iff.1 hgb).1
                      have rb := hasRow_block u1 0 56 (by rw [cmC_length]; decide)
                      have fb := freeRow_block u1 0 56
                      have zb6 : W.heap.size < U.heap.size := (Array.getElem?_eq_some_iff.1 u1).1
                      have HU1 := Lib.hid (sets_whole (cs := cmC c' (.slice a' n' k')) u1 (by rw [cmC_length, cmC_length]))
                      have HU0 := Lib.hid ((sets_other (b := W.heap.size) (i := w.heap.size) (by omega) (cmC c' (.slice a' n' k')) 0 U).trans u0)
                      have HGU := Lib.hid (GU.out.setsOwn (b := W.heap.size) (Nat.le_of_lt zW) (cmC c' (.slice a' n' k')) 0)
                      have HGR := Lib.hid (grown_ats (cmC c' (.slice a' n' k')) 0 U (grown_trans hGR.out (grown_gr hGU)))
                      have HAU : Hid (AutsAt (U.setCells W.heap.size 0 (cmC c' (.slice a' n' k'))) (.slice a' n' k') c'.mods) := by
                        refine SlAt.keep ha' (fun y hy => sets_other (by have := HAB.out y hy; omega) _ _ _) ?_
                        rw [sets_size]; exact Nat.le_refl _
                      have cw' : (U.setCells W.heap.size 0 (cmC c' (.slice a' n' k'))).cell? ⟨gl, n, none⟩ = some (.string x) := by
                        rw [← cw, ← hGU.cell (p := ⟨gl, n, none⟩) zgl]
                        have := sets_other (b := W.heap.size) (i := gl) (by omega) (cmC c' (.slice a' n' k')) 0 U
                        unfold World.cell?
                        rw [this]
                      have zz1 : gl < (U.setCells W.heap.size 0 (cmC c' (.slice a' n' k'))).heap.size := by rw [sets_size]; exact Nat.lt_of_lt_of_le zgl hGU.size
                      have w9 : f + 1 + x.size ≤ 10000 := by omega
                      clear HOK hc' ha' hs' hb' u0 u1 hgb hgz hGU GU HRUN HPN HXL
                      rw [he]
                      clear he
                      go_wp2_with fail
                      go_roundw
                      case rel => exact ⟨i + 1, f + 1 + x.size, n + 1, c', a', n', k', by omega, by go_num, by go_num, by go_num, by omega, by omega, HCK.out, HPN'.out, HRN.out, HGU.out, HGR.out, HU0.out, HU1.out, HAU.out, HAN'.out, HAB.out⟩
                      case measure => simp [intOf]; omega
                    · have HRR : Hid (R0 = .inl (f + 1, srtE t (bl x))) := by
                        show _ = _
                        rw [← HRUN.out, if_pos he]
                      have HP : Hid (∀ W', Gr w W' → PrPost (refS (bl s)) w (.returned (.tuple #[.agg (cmC (cm0 0) nilV).toArray, .int .i64 ((f : Int) + 1), .int .i64 (srtE t (bl x))])) W') := fun W' hg => by
                        rw [HR.out, HRR.out]
                        exact ⟨nilV, by simp [endR], nil_auts _, hg⟩
                      obtain ⟨r0, f0, HS, GS, z0⟩ := ps_end (w := w) u0 GU.out (Nat.le_refl _) (cm0 0) nilV
                      have y1 : (srtE t (bl x) == 0) = false := by simpa using he
                      have y2 : (srtE t (bl x) != 0) = true := by simpa using he
                      clear HOK u0 u1 hgb hgz hGU HRUN HPN HXL HR HRR he
                      generalize srtE t (bl x) = er at *
                      go_wp2_with fail
                      refine bodyPost_ret (results_cell_tmp2 (p := 2) (u1 := 3) (u2 := 4) rfl _ _ w.heap.size _ _ _ _ rfl HS.out Tryz.underlying26 rfl (by rw [List.size_toArray, cmC_length]; kernel_rfl)) rfl ?_
                      exact HP.out _ GS.out
            · have hie : LL.drop i = [] := List.drop_of_length_le (by omega)
              rw [hie] at hrun
              have hi1x : ¬ (i : Int) < (LL.length : Int) := by omega
              have HRR : Hid (R0 = .inr (c, f, (w0 :: ws).drop n)) := hrun.out.symm
              have HEN : Hid (refS (bl s) = endR k (bl s) (.inr (c, f, (w0 :: ws).drop n))) := by show _ = _; rw [HR.out, HRR.out]
              have hlnw : (w0 :: ws).length = l.length := by rw [HLL.out, List.length_cons]
              clear hie hrun HR HRR hgcell HND HJ2 hAN
              by_cases hend : n = l.length
              · have hdn : (w0 :: ws).drop n = [] := List.drop_of_length_le (by omega)
                rw [hdn] at HEN
                have HE2 : Hid (refS (bl s) = (c, 0, 0)) := HEN.out
                have q5 : ((n : Int) == (l.length : Int)) = true := by simp; omega
                obtain ⟨r0, f0, HS, GS, z0⟩ := ps_end (w := w) hB0.out hG.out (Nat.le_refl _) c (.slice a m cp)
                have HAU : Hid (AutsAt (wr.setCells w.heap.size 0 (cmC c (.slice a m cp))) (.slice a m cp) c.mods) := by
                  refine SlAt.keep hAU.out (fun y hy => sets_other (by have := hAB.out y hy; omega) _ _ _) ?_
                  rw [sets_size]; exact Nat.le_refl _
                have HP : Hid (PrPost (refS (bl s)) w (.returned (.tuple #[.agg (cmC c (.slice a m cp)).toArray, .int .i64 0, .int .i64 0])) (wr.setCells w.heap.size 0 (cmC c (.slice a m cp)))) := by
                  rw [HE2.out]
                  exact ⟨_, rfl, HAU.out, GS.out⟩
                clear HEN HE2 hdn hend hps hlnw
                go_wp2_with fail
                refine bodyPost_ret (results_cell_tmp2 (p := 2) (u1 := 3) (u2 := 4) rfl _ _ w.heap.size _ _ _ _ rfl HS.out Tryz.underlying26 rfl (by rw [List.size_toArray, cmC_length]; kernel_rfl)) rfl ?_
                exact HP.out
              · have hdn : (w0 :: ws).drop n ≠ [] := by
                  intro e
                  have := congrArg List.length e
                  rw [List.length_drop] at this
                  simp only [List.length_nil] at this; omega
                have hfl : f < s.size := by have := (ok_end hps.out).2 hdn; rwa [bl_length] at this
                have q5 : ((n : Int) == (l.length : Int)) = false := by simp; omega
                have HEN2 : Hid (refS (bl s) = if k ≠ 2 then (cm0 0, f, 5) else if restE ((bl s).drop (f + 1)) ≠ 0 then (cm0 0, f + 1, restE ((bl s).drop (f + 1))) else ({ c with text := bs ((bl s).drop (f + 1)) }, 0, 0)) := HEN.out.trans (if_neg hdn)
                clear HEN hdn hend hps hlnw
                by_cases hk3 : (kd : Int) = 3
                · have hk2 : k = 2 := HK3.out.2 hk3
                  have HEN3 : Hid (refS (bl s) = if restE ((bl s).drop (f + 1)) ≠ 0 then (cm0 0, f + 1, restE ((bl s).drop (f + 1))) else ({ c with text := bs ((bl s).drop (f + 1)) }, 0, 0)) := HEN2.out.trans (if_neg (fun q => q hk2))
                  have y3 : ((kd : Int) == 3) = true := by simp [hk3]
                  have y4 : ((kd : Int) != 3) = false := by simp [hk3]
                  have HTX := bl_extract s (f + 1)
                  have HRE : Hid (restE ((bl s).drop (f + 1)) = if bl (s.extract (f + 1) s.size) = [] then 4 else textErr (bl (s.extract (f + 1) s.size))) := by
                    show _ = _
                    unfold restE; rw [HTX]
                  have HBS : Hid (bs ((bl s).drop (f + 1)) = s.extract (f + 1) s.size) := by show _ = _; rw [← HTX, bs_bl]
                  have HTL := bl_toList (s.extract (f + 1) s.size)
                  rw [HBS.out] at HEN3
                  have p1 : (0 : Int) ≤ (f : Int) + 1 := by omega
                  have p2 : (f : Int) + 1 ≤ (s.size : Int) := by omega
                  have p3 : ((f : Int) + 1).toNat = f + 1 := by omega
                  have HTC := Lib.hid (refTextC (s.extract (f + 1) s.size))
                  obtain ⟨-, -, -, -, -, c37, -, -, -, -, -, -, -, -, -, -, -⟩ := cm_facts hB1'
                  have f37 := free_block hB1' 37
                  have hP1 := put_text hB1' (s.extract (f + 1) s.size)
                  obtain ⟨-, -, -, -, -, e37, -, -, -, -, -, -, -, -, -, -, ez⟩ := cm_facts hP1
                  have hP0 := (heap_setCell_other wr ⟨W.heap.size, 37, none⟩ w.heap.size (.string (s.extract (f + 1) s.size)) (by show w.heap.size ≠ W.heap.size; omega)).trans hB0.out
                  have hPG := hG.out.setOwn (b := W.heap.size) (o := 37) (Nat.le_of_lt zW) (.string (s.extract (f + 1) s.size))
                  have hPA : AutsAt (wr.setCell ⟨W.heap.size, 37, none⟩ (.string (s.extract (f + 1) s.size))) (.slice a m cp) c.mods := by
                    refine SlAt.keep hAU.out (fun y hy => heap_setCell_other wr ⟨W.heap.size, 37, none⟩ y.block _ (by have := hAB.out y hy; show y.block ≠ W.heap.size; omega)) ?_
                    simp
                  have HP0 := Lib.hid hP0
                  have HP1 := Lib.hid hP1
                  have HPG := Lib.hid hPG
                  have HPA := Lib.hid hPA
                  clear HEN2 HBS HTX hk3 hP0 hP1 hPG hPA r6 q6 c35
                  generalize hTT : s.extract (f + 1) s.size = T at *
                  by_cases hT : bl T = []
                  · have HR4 : Hid (restE ((bl s).drop (f + 1)) = 4) := by show _ = _; rw [HRE.out, if_pos hT]
                    have HE4 : Hid (refS (bl s) = (cm0 0, f + 1, 4)) := by show _ = _; rw [HEN3.out, HR4.out]; rfl
                    have t1 : T.toList = [] := by rw [HTL, hT]
                    have t2 : T.toList.isEmpty = true := by rw [t1]; rfl
                    obtain ⟨r0, f0, HS, GS, z0⟩ := ps_end (w := w) HP0.out HPG.out (Nat.le_refl _) (cm0 0) nilV
                    have HP : Hid (∀ W', Gr w W' → PrPost (refS (bl s)) w (.returned (.tuple #[.agg (cmC (cm0 0) nilV).toArray, .int .i64 ((f : Int) + 1), .int .i64 4])) W') := fun W' hg => by
                      rw [HE4.out]; exact ⟨nilV, by simp, nil_auts _, hg⟩
                    clear HEN3 HRE HR4 HE4 HTL hT HTC
                    go_wp2_with fail
                    refine bodyPost_ret (results_cell_tmp2 (p := 2) (u1 := 3) (u2 := 4) rfl _ _ w.heap.size _ _ _ _ rfl HS.out Tryz.underlying26 rfl (by rw [List.size_toArray, cmC_length]; kernel_rfl)) rfl ?_
                    exact HP.out _ GS.out
                  · have t1 : ¬ T.toList = [] := by rw [HTL]; exact hT
                    have t2 : T.toList.isEmpty = false := by simpa using t1
                    rw [if_neg hT] at HRE
                    generalize textErr (bl T) = te at *
                    clear hT HTL
                    by_cases hte : te = 0
                    · have HE4 : Hid (refS (bl s) = ({ c with text := T }, 0, 0)) := by show _ = _; rw [HEN3.out, HRE.out, if_neg (fun q => q hte)]
                      subst hte
                      go_wp2_with fail
                      refine (HTC.out _).mono ?_
                      rintro e V ⟨rfl, hgV⟩
                      have v0' := (hgV.block (Array.getElem?_eq_some_iff.1 HP0.out).1).trans HP0.out
                      have v1' := (hgV.block (Array.getElem?_eq_some_iff.1 HP1.out).1).trans HP1.out
                      have r6 := hasRow_block v1' 0 56 (by rw [cmC_length]; decide)
                      have q6 := (rowAt_block v1' 0 56 (by rw [cmC_length]; decide)).trans (cm_whole { c with text := T } (.slice a m cp))
                      have z6' := (Array.getElem?_eq_some_iff.1 v1').1
                      obtain ⟨r0, f0, HS, GS, z0⟩ := ps_end (w := w) v0' (HPG.out.trans hgV) (Nat.le_refl _) { c with text := T } (.slice a m cp)
                      have HAU : Hid (AutsAt (V.setCells w.heap.size 0 (cmC { c with text := T } (.slice a m cp))) (.slice a m cp) c.mods) := by
                        refine SlAt.keep (HPA.out.gr hgV) (fun y hy => sets_other (by have := hAB.out y hy; omega) _ _ _) ?_
                        rw [sets_size]; exact Nat.le_refl _
                      have HP : Hid (PrPost (refS (bl s)) w (.returned (.tuple #[.agg (cmC { c with text := T } (.slice a m cp)).toArray, .int .i64 0, .int .i64 0])) (V.setCells w.heap.size 0 (cmC { c with text := T } (.slice a m cp)))) := by
                        rw [HE4.out]
                        exact ⟨_, rfl, HAU.out, GS.out⟩
                      clear HE4 HEN3 HRE hgV v0' v1' e37 ez
                      go_wp2_with fail
                      refine bodyPost_ret (results_cell_tmp2 (p := 2) (u1 := 3) (u2 := 4) rfl _ _ w.heap.size _ _ _ _ rfl HS.out Tryz.underlying26 rfl (by rw [List.size_toArray, cmC_length]; kernel_rfl)) rfl ?_
                      exact HP.out
                    · have HE4 : Hid (refS (bl s) = (cm0 0, f + 1, te)) := by show _ = _; rw [HEN3.out, HRE.out, if_pos hte]
                      have y5 : (te == 0) = false := by simpa using hte
                      have y6 : (te != 0) = true := by simpa using hte
                      clear hte
                      go_wp2_with fail
                      refine (HTC.out _).mono ?_
                      rintro e V ⟨rfl, hgV⟩
                      have v0' := (hgV.block (Array.getElem?_eq_some_iff.1 HP0.out).1).trans HP0.out
                      obtain ⟨r0, f0, HS, GS, z0⟩ := ps_end (w := w) v0' (HPG.out.trans hgV) (Nat.le_refl _) (cm0 0) nilV
                      have HP : Hid (∀ W', Gr w W' → PrPost (refS (bl s)) w (.returned (.tuple #[.agg (cmC (cm0 0) nilV).toArray, .int .i64 ((f : Int) + 1), .int .i64 te])) W') := fun W' hg => by
                        rw [HE4.out]; exact ⟨nilV, by simp, nil_auts _, hg⟩
                      clear HE4 HEN3 HRE hgV v0' e37 ez
                      go_wp2_with fail
                      refine bodyPost_ret (results_cell_tmp2 (p := 2) (u1 := 3) (u2 := 4) rfl _ _ w.heap.size _ _ _ _ rfl HS.out Tryz.underlying26 rfl (by rw [List.size_toArray, cmC_length]; kernel_rfl)) rfl ?_
                      exact HP.out _ GS.out
                · have hk2 : k ≠ 2 := fun h => hk3 (HK3.out.1 h)
                  have HE5 : Hid (refS (bl s) = (cm0 0, f, 5)) := HEN2.out.trans (if_pos hk2)
                  have y3 : ((kd : Int) == 3) = false := by simpa using hk3
                  have y4 : ((kd : Int) != 3) = true := by simpa using hk3
                  obtain ⟨r0, f0, HS, GS, z0⟩ := ps_end (w := w) hB0.out hG.out (Nat.le_refl _) (cm0 0) nilV
                  have HP : Hid (∀ W', Gr w W' → PrPost (refS (bl s)) w (.returned (.tuple #[.agg (cmC (cm0 0) nilV).toArray, .int .i64 (f : Int), .int .i64 5])) W') := fun W' hg => by
                    rw [HE5.out]; exact ⟨nilV, rfl, nil_auts _, hg⟩
                  clear HEN2 HE5 hk3 hk2
                  go_wp2_with fail
                  refine bodyPost_ret (results_cell_tmp2 (p := 2) (u1 := 3) (u2 := 4) rfl _ _ w.heap.size _ _ _ _ rfl HS.out Tryz.underlying26 rfl (by rw [List.size_toArray, cmC_length]; kernel_rfl)) rfl ?_
                  exact HP.out _ GS.out
end Go.Proofs.YtcdcmohccbhchaaGreatDoor

/- The contract of utf8.Repair. -/
import Derived.Test.YtalommgkigacpaaDoorBuilder
namespace Go.Proofs.YtalommgkigacpaaDoor
open Go.RowKit

def repF : Nat → List UInt8 → List UInt8
  | 0, _ => []
  | f + 1, l => if l = [] then [] else if measB l = true then l.take (measN l) ++ repF f (l.drop (measN l)) else [239, 191, 189] ++ repF f (l.drop (max (measN l) 1))
theorem repF_eq : ∀ (f g : Nat) (l : List UInt8), l.length ≤ f → l.length ≤ g → repF f l = repF g l
  | 0, 0, _, _, _ => rfl
  | 0, g + 1, l, h, _ => by have : l = [] := List.length_eq_zero_iff.1 (by omega); simp [repF, this]
  | f + 1, 0, l, _, h => by have : l = [] := List.length_eq_zero_iff.1 (by omega); simp [repF, this]
  | f + 1, g + 1, l, h1, h2 => by
    simp only [repF]
    by_cases c : l = []
    · simp [c]
    · by_cases d : measB l = true
      · have := measN_pos l d
        simp only [if_neg c, if_pos d]; rw [repF_eq f g _ (by rw [List.length_drop]; omega) (by rw [List.length_drop]; omega)]
      · simp only [if_neg c, if_neg d]; rw [repF_eq f g _ (by rw [List.length_drop]; omega) (by rw [List.length_drop]; omega)]
/-- What Repair returns. -/
def rep (l : List UInt8) : List UInt8 := repF l.length l
theorem rep_nil : rep [] = [] := rfl
theorem rep_whole (l : List UInt8) (h : measB l = true) : rep l = l.take (measN l) ++ rep (l.drop (measN l)) := by
  have hp := measN_pos l h
  rcases l with _ | ⟨a, t⟩
  · simp [measB] at h
  · rw [show rep (a :: t) = (a :: t).take (measN (a :: t)) ++ repF t.length ((a :: t).drop (measN (a :: t))) by simp [rep, repF, h]]
    rw [repF_eq t.length _ _ (by rw [List.length_drop, List.length_cons]; omega) (Nat.le_refl _)]; rfl
theorem rep_bad (l : List UInt8) (hl : l ≠ []) (h : measB l = false) : rep l = [239, 191, 189] ++ rep (l.drop (max (measN l) 1)) := by
  rcases l with _ | ⟨a, t⟩
  · exact absurd rfl hl
  · rw [show rep (a :: t) = [239, 191, 189] ++ repF t.length ((a :: t).drop (max (measN (a :: t)) 1)) by simp [rep, repF, h]]
    rw [repF_eq t.length _ _ (by rw [List.length_drop, List.length_cons]; omega) (Nat.le_refl _)]; rfl

theorem IsBuilder.gr {w w' : World} (hg : Gr w w') {B b : Nat} {bs : List Value} (h : Lib.IsBuilder 70 5 B b bs w) : Lib.IsBuilder 70 5 B b bs w' := by
  have key : ∀ p, Lib.BuilderAt 70 5 B b p bs w → Lib.BuilderAt 70 5 B b p bs w' := by
    intro p h
    have hlt := h.lt
    obtain ⟨hB, v, hbk, hown, hne⟩ := h
    exact ⟨hB, v, by rw [Below.block hg b hlt]; exact hbk, hg.own hown, hne⟩
  rcases h with h | h
  · exact .inl (key _ h)
  · exact .inr (key _ h)
theorem cells_bl (s : ByteArray) : Lib.strCells s = Lib.byteCells (bl s) := rfl
theorem Gr.trans' {a b c : World} (h : Gr a b) (k : Below a.heap.size b c) : Gr a c := Below.trans h k
def strLen : Value → Nat
  | .string t => t.size
  | _ => 0
theorem repl_bytes : bl (strOfNums (encZ 65533)) = [239, 191, 189] := by decide +kernel
theorem repl_size : (strOfNums (encZ 65533)).size = 3 := by rw [← bl_length, repl_bytes]; rfl

set_option maxHeartbeats 1000000 in
set_option maxRecDepth 100000 in
theorem repair_core (s : ByteArray) (w : World) (hT : Tab w) (hs : s.size ≤ 1000000) (OUT : List UInt8) (hO : Hid (OUT = rep (bl s))) :
    Calls Tryd.prog 24 #[.string s] w fun e w' => e = .returned (.string ⟨OUT.toArray⟩) ∧ Gr w w' := by
  have HT := Lib.hid hT
  clear hT
  go_enter Tryd.func24, Tryd.ntmps24
  go_wp2_with fail
  refine (encode_good 65533 _ (by decide) HT.out).mono ?_
  rintro e w1 ⟨rfl, hg1⟩
  generalize hR : strOfNums (encZ 65533) = REP
  have hR1 : REP.size = 3 := by rw [← hR]; exact repl_size
  have hR2 : Hid (bl REP = [239, 191, 189]) := by rw [← hR]; exact repl_bytes
  have hR3 := Lib.hid hR1
  clear hR hR1 HT
  go_wp2_with fail
  go_loopw [0, 6, 7] (fun u0 _ _ wr => ∃ (t : ByteArray) (bs : List UInt8), u0 = .string t ∧ t.size ≤ s.size ∧ bs.length + 3 * t.size ≤ 3 * s.size ∧ Hid (OUT = bs ++ rep (bl t)) ∧ Lib.IsBuilder 70 5 w1.heap.size w1.heap.size (Lib.byteCells bs) wr ∧ Gr w1 wr) (fun u0 _ _ _ => strLen u0)
  case atStart => exact ⟨s, [], rfl, Nat.le_refl _, by simp, hO, Lib.fresh_isBuilder 70 5 w1, (Gr.refl _).alloc _⟩
  case round =>
    obtain ⟨t, bs, rfl, hts, hbs, kO, hB, hg⟩ := hrel
    clear hO
    by_cases c : bl t = []
    · have he2 : t.toList = [] := by rw [bl_toList, c]
      have he : t.toList.isEmpty = true := by rw [he2]; rfl
      have kO' : Hid (OUT = bs) := by have := kO.out; rw [c, rep_nil, List.append_nil] at this; exact this
      clear kO c
      go_wp2_with fail
      refine (Tryd.Builder_String_any _ _ bs _ hB hg.size).mono ?_
      rintro e w2 ⟨rfl, hg2⟩
      go_wp2_with fail
      go_ret
      have := kO'.out
      subst this
      exact ⟨rfl, hg1.trans (hg.trans' hg2)⟩
    · have he2 : ¬ t.toList = [] := by rw [bl_toList]; exact c
      have he : t.toList.isEmpty = false := by simpa using he2
      have hle := measN_le (bl t)
      rw [bl_length] at hle
      by_cases d : measB (bl t) = true
      · have hp := measN_pos _ d
        have kO' : Hid (OUT = (bs ++ (bl t).take (measN (bl t))) ++ rep ((bl t).drop (measN (bl t)))) := by
          have := kO.out; rw [rep_whole _ d, ← List.append_assoc] at this; exact this
        have D := Lib.hid d
        clear kO c d
        go_wp2_with fail
        refine (measure_any t _ (by omega)).mono ?_
        rintro e w2 ⟨rfl, hg2⟩
        rw [D.out]
        clear D
        have e1 := Lib.hid (bl_take t (measN (bl t)))
        have e2 := Lib.hid (take_size t (measN (bl t)) hle)
        have e3 := Lib.hid (bl_from t (measN (bl t)))
        have e4 := Lib.hid (from_size t (measN (bl t)))
        generalize measN (bl t) = n at *
        have hB2 := IsBuilder.gr hg2 hB
        have hgg := hg.trans hg2
        clear hB hg hg2
        go_wp2_with fail
        refine (writeString_any _ _ _ _ _ hB2 (by rw [Lib.byteCells_length, e2.out]; omega) hgg.size).mono ?_
        rintro e w3 ⟨rfl, hB3, hg3⟩
        rw [cells_bl, e1.out, ← Lib.byteCells_append] at hB3
        go_wp2_with fail
        go_roundw
        case rel => exact ⟨_, _, rfl, by rw [e4.out]; omega, by rw [List.length_append, List.length_take, bl_length, e4.out]; omega, by rw [e3.out]; exact kO', .inr hB3, hgg.trans' hg3⟩
        case measure => simp only [strLen]; rw [e4.out]; omega
      · have d' : measB (bl t) = false := by simpa using d
        have hpos : 1 ≤ t.size := by
          rcases Nat.eq_zero_or_pos t.size with h | h
          · exact absurd ((bl_empty t).2 h) c
          · exact h
        have kO' : Hid (OUT = (bs ++ [239, 191, 189]) ++ rep ((bl t).drop (max (measN (bl t)) 1))) := by
          have := kO.out; rw [rep_bad _ c d', ← List.append_assoc] at this; exact this
        have D := Lib.hid d'
        clear kO c d d'
        go_wp2_with fail
        refine (measure_any t _ (by omega)).mono ?_
        rintro e w2 ⟨rfl, hg2⟩
        rw [D.out]
        clear D
        have e3 := Lib.hid (bl_from t (max (measN (bl t)) 1))
        have e4 := Lib.hid (from_size t (max (measN (bl t)) 1))
        generalize measN (bl t) = n at *
        have hB2 := IsBuilder.gr hg2 hB
        have hgg := hg.trans hg2
        clear hB hg hg2
        have hm : max n 1 = (max (n : Int) 1).toNat := by omega
        rw [hm] at e3 e4 kO'
        clear hm
        go_wp2_with fail
        refine (writeString_any _ _ _ _ _ hB2 (by rw [Lib.byteCells_length, hR3.out]; omega) hgg.size).mono ?_
        rintro e w3 ⟨rfl, hB3, hg3⟩
        rw [cells_bl, hR2.out, ← Lib.byteCells_append] at hB3
        go_wp2_with fail
        go_roundw
        case rel => exact ⟨_, _, rfl, by rw [e4.out]; omega, by rw [List.length_append, e4.out]; simp; omega, by rw [e3.out]; exact kO', .inr hB3, hgg.trans' hg3⟩
        case measure => simp only [strLen]; rw [e4.out]; omega

/-- utf8.Repair. -/
theorem repair_any (s : ByteArray) (w : World) (hT : Tab w) (hs : s.size ≤ 1000000) :
    Calls Tryd.prog 24 #[.string s] w fun e w' => e = .returned (.string ⟨(rep (bl s)).toArray⟩) ∧ Gr w w' := repair_core s w hT hs _ rfl
end Go.Proofs.YtalommgkigacpaaDoor

/- Reading back what was printed (plain). Reading back what was printed (plain): kind by kind. Reading back what was printed (plain): a definition. Reading back what was printed: every good command. What a text that was parsed without an error holds (plain): it is what is printed of the command. A command's text without its last word, and with a word more (plain). A command in a block. -/
import Derived.Test.YtcdcmohccbhchaaGreatDoorBG
import Derived.Test.YtcdcmohccbhchaaGreatDoorBB
import Derived.Test.YtcdcmohccbhchaaGreatDoorBE
import Derived.Test.YtcdcmohccbhchaaGreatDoorBF
namespace Go.Proofs.YtcdcmohccbhchaaGreatDoor
open Go.RowKit

section
variable (n st f a : Nat) (ws : List Str)
theorem next_one (w : Str) : (⟨st, f, w :: ws, a, 0⟩ : PS).next n = (⟨f + 1, f + 1 + w.length, ws, a, 0⟩, w, true) := by unfold PS.next; rw [if_neg (by simp)]
theorem next_none : (⟨st, f, [], a, 0⟩ : PS).next n = (⟨st, f, [], n, 4⟩, [], false) := by unfold PS.next; rw [if_neg (by simp)]
theorem target_one (w : Str) (h : targetE w = 0) : (⟨st, f, w :: ws, a, 0⟩ : PS).targetP n = (⟨f + 1, f + 1 + w.length, ws, a, 0⟩, midV w) := by
  unfold PS.targetP; rw [next_one, if_pos rfl]; simp only [h, fail_zero]
theorem group_one (w : Str) (h : groupE w = 0) : (⟨st, f, w :: ws, a, 0⟩ : PS).groupP n = (⟨f + 1, f + 1 + w.length, ws, a, 0⟩, w) := by
  unfold PS.groupP; rw [next_one, if_pos rfl]; simp only [h, fail_zero]
theorem num_one (lo hi : Int) (w : Str) (h : numE lo hi w = 0) : (⟨st, f, w :: ws, a, 0⟩ : PS).numP n lo hi = (⟨f + 1, f + 1 + w.length, ws, a, 0⟩, numV w) := by
  unfold PS.numP; rw [next_one, if_pos rfl]; simp only [h, fail_zero]
theorem pub_one (w : Str) (h : pubE w = 0) : (⟨st, f, w :: ws, a, 0⟩ : PS).pubP n = (⟨f + 1, f + 1 + w.length, ws, a, 0⟩, pubH w, pubR w) := by
  unfold PS.pubP; rw [next_one, if_pos rfl]; simp only [h, fail_zero]
theorem auts_one (w : Str) (h : autsE w = 0) : (⟨st, f, w :: ws, a, 0⟩ : PS).autsP n = (⟨f + 1, f + 1 + w.length, ws, a, 0⟩, true, autsV w) := by
  unfold PS.autsP; rw [next_one, if_pos rfl]; simp only [h, fail_zero]
theorem mode_open : (⟨st, f, openT :: ws, a, 0⟩ : PS).modeP n = (⟨f + 1, f + 1 + openT.length, ws, a, 0⟩, false, []) := by
  unfold PS.modeP; rw [next_one, if_pos (.inr rfl)]
theorem mode_mod (w : Str) (h : autsE w = 0) : (⟨st, f, modT :: w :: ws, a, 0⟩ : PS).modeP n = (⟨f + 1 + modT.length + 1, f + 1 + modT.length + 1 + w.length, ws, a, 0⟩, true, autsV w) := by
  unfold PS.modeP; rw [next_one, if_neg (by simp [openT, modT]), if_neg (by simp)]; exact auts_one n _ _ a ws w h
theorem fin_one (c : Cm) : finP n (⟨st, n, [], a, 0⟩, c) = (c, 0, 0) := by
  unfold finP finS; rw [if_neg (Nat.lt_irrefl n), if_neg (by simp)]
end
theorem numE_dec {lo hi : Int} {u : Nat} (hu : u < 10000000) (h1 : lo ≤ (u : Int)) (h2 : (u : Int) ≤ hi) : numE lo hi (Lib.decDigits u) = 0 ∧ numV (Lib.decDigits u) = (u : Int) := by
  have hb := numB_dec hu
  have hl := numL_dec u u (Nat.le_refl _)
  unfold numE numV
  rw [if_neg (by rw [hb]; decide), hl, if_neg (by omega), if_pos hb]
  exact ⟨rfl, rfl⟩
theorem targetE_mid {i : Id} (h : i ≠ zId) : targetE (midT i) = 0 ∧ midV (midT i) = i := by
  unfold targetE
  rw [if_neg (by rw [midB_midT]; decide), midV_midT, if_neg h]
  exact ⟨rfl, rfl⟩
theorem groupE_bl {g : ByteArray} (h : nameErr g = 0) : groupE (bl g) = 0 := by
  unfold groupE
  have e : bs (bl g) = g := rfl
  rw [e, if_neg (by simp [h])]
end Go.Proofs.YtcdcmohccbhchaaGreatDoor

namespace Go.Proofs.YtcdcmohccbhchaaGreatDoor
open Go.RowKit

theorem parse_words {w0 : Str} {ws : List Str} {k : Fin 5} (h : ∀ w ∈ w0 :: ws, (32 : UInt8) ∉ w) (hk : kindK w0 = some k) (hl : (Lib.join (w0 :: ws) [32]).length ≤ 1000) :
    parseS (Lib.join (w0 :: ws) [32]) = finP (Lib.join (w0 :: ws) [32]).length (readK k (Lib.join (w0 :: ws) [32]).length (Lib.join (w0 :: ws) [32]) ⟨0, w0.length, ws, 0, 0⟩) := by
  unfold parseS
  rw [if_neg (by omega), split_join 32 _ (by simp) h]
  simp only [List.headD_cons, List.tail_cons, hk]
theorem kind1 : kindK (bl (kindS 1)) = some 0 := by decide +kernel
theorem kind2 : kindK (bl (kindS 2)) = some 1 := by decide +kernel
theorem kind3 : kindK (bl (kindS 3)) = some 2 := by decide +kernel
theorem kind4 : kindK (bl (kindS 4)) = some 3 := by decide +kernel
theorem kind5 : kindK (bl (kindS 5)) = some 4 := by decide +kernel
theorem join_len1 (a : Str) : (Lib.join [a] [32]).length = a.length := by rw [Lib.join_one]
theorem join_len2 (a b : Str) (l : List Str) : (Lib.join (a :: b :: l) [32]).length = a.length + 1 + (Lib.join (b :: l) [32]).length := by rw [join_cons2]; simp; omega
theorem nb_of {w : Str} (h : ∀ c ∈ w, 33 ≤ c.toNat ∧ c.toNat ≤ 126) : (32 : UInt8) ∉ w := fun hm => by have := (h 32 hm).1; revert this; decide
theorem nb_mid (i : Id) : (32 : UInt8) ∉ midT i := by
  unfold midT
  intro hm
  rcases List.mem_cons.1 hm with h | h
  · revert h; decide
  · rcases List.mem_append.1 h with h | h
    · have := (mem_hex h).1; revert this; decide
    · revert h; decide
theorem nb_kind (k : Int) (h1 : 1 ≤ k) (h5 : k ≤ 5) : (32 : UInt8) ∉ bl (kindS k) := by
  have : k = 1 ∨ k = 2 ∨ k = 3 ∨ k = 4 ∨ k = 5 := by omega
  rcases this with rfl | rfl | rfl | rfl | rfl <;> decide +kernel
theorem nb2 {a b : Str} (ha : (32 : UInt8) ∉ a) (hb : (32 : UInt8) ∉ b) : ∀ w ∈ [a, b], (32 : UInt8) ∉ w := fun w hw => by
  rcases List.mem_cons.1 hw with rfl | hw
  · exact ha
  · rw [List.mem_singleton.1 hw]; exact hb
theorem nb3 {a b c : Str} (ha : (32 : UInt8) ∉ a) (hb : (32 : UInt8) ∉ b) (hc : (32 : UInt8) ∉ c) : ∀ w ∈ [a, b, c], (32 : UInt8) ∉ w := fun w hw => by
  rcases List.mem_cons.1 hw with rfl | hw
  · exact ha
  · exact nb2 hb hc w hw
theorem kind_len (k : Int) (h1 : 1 ≤ k) (h5 : k ≤ 5) : (bl (kindS k)).length ≤ 7 := (fld_kind k h1 h5).2
theorem rt1 (t : Id) (h : t ≠ zId) : parseS (Lib.join [bl (kindS 1), midT t] [32]) = ({ cm0 1 with target := t }, 0, 0) := by
  have hn : (Lib.join [bl (kindS 1), midT t] [32]).length = (bl (kindS 1)).length + 1 + (midT t).length := by rw [join_len2, join_len1]
  have hk := kind_len 1 (by decide) (by decide)
  have hm := midT_len t
  rw [parse_words (nb2 (nb_kind 1 (by decide) (by decide)) (nb_mid t)) kind1 (by omega), hn]
  show finP _ (read1 _ _) = _
  unfold read1
  rw [target_one _ _ _ _ _ _ (targetE_mid h).1, (targetE_mid h).2]
  exact fin_one _ _ _ _
theorem rt2 (t : Id) (g : ByteArray) (h : t ≠ zId) (hg : nameErr g = 0) : parseS (Lib.join [bl (kindS 2), midT t, bl g] [32]) = ({ cm0 2 with target := t, group := g }, 0, 0) := by
  have hn : (Lib.join [bl (kindS 2), midT t, bl g] [32]).length = (bl (kindS 2)).length + 1 + (midT t).length + 1 + (bl g).length := by rw [join_len2, join_len2, join_len1]; omega
  have hk := kind_len 2 (by decide) (by decide)
  have hm := midT_len t
  obtain ⟨g1, g2, g3⟩ := name_ok hg
  have gl := bl_length g
  rw [parse_words (nb3 (nb_kind 2 (by decide) (by decide)) (nb_mid t) (nb_of g3)) kind2 (by omega), hn]
  show finP _ (read2 _ _) = _
  unfold read2
  rw [target_one _ _ _ _ _ _ (targetE_mid h).1, (targetE_mid h).2]
  simp only
  rw [group_one _ _ _ _ _ _ (groupE_bl hg)]
  exact fin_one _ _ _ _
theorem nb_fldI (n : Int) (h : 0 ≤ n) (h2 : n ≤ 1000000) : (32 : UInt8) ∉ Lib.decDigits n.toNat ∧ (Lib.decDigits n.toNat).length ≤ 7 := by
  have hb : numB (Lib.decDigits n.toNat) = true := numB_dec (by omega)
  have hl := (fld_itoa n h h2).2
  rw [itoa_nat n h] at hl
  refine ⟨fun hm => ?_, hl⟩
  unfold numB at hb
  simp only [Bool.and_eq_true] at hb
  have hall : (Lib.decDigits n.toNat).all isD = true := by
    revert hb; intro hb
    first | exact hb.1.2 | exact hb.2.1 | exact hb.1.1.2 | exact hb.2 | exact hb.1
  have := List.all_eq_true.1 hall 32 hm
  revert this; decide
theorem rt4 (g : ByteArray) (n : Int) (hg : nameErr g = 0) (h0 : 0 ≤ n) (h1 : n ≤ 1000000) : parseS (Lib.join [bl (kindS 4), bl g, bl (itoaS n)] [32]) = ({ cm0 4 with group := g, version := n }, 0, 0) := by
  rw [itoa_nat n h0]
  obtain ⟨i1, i2⟩ := nb_fldI n h0 h1
  have hn : (Lib.join [bl (kindS 4), bl g, Lib.decDigits n.toNat] [32]).length = (bl (kindS 4)).length + 1 + (bl g).length + 1 + (Lib.decDigits n.toNat).length := by rw [join_len2, join_len2, join_len1]; omega
  have hk := kind_len 4 (by decide) (by decide)
  obtain ⟨g1, g2, g3⟩ := name_ok hg
  have gl := bl_length g
  rw [parse_words (nb3 (nb_kind 4 (by decide) (by decide)) (nb_of g3) i1) kind4 (by omega), hn]
  show finP _ (read4 _ _) = _
  have hnum := numE_dec (lo := 0) (hi := 1000000) (u := n.toNat) (by omega) (by omega) (by omega)
  unfold read4
  rw [group_one _ _ _ _ _ _ (groupE_bl hg)]
  simp only
  rw [num_one _ _ _ _ _ _ _ _ hnum.1, hnum.2]
  have e : (n.toNat : Int) = n := by omega
  rw [e]
  exact fin_one _ _ _ _
theorem nb_pub (h : Int) (r : Aut) : (32 : UInt8) ∉ pubT h r := by
  unfold pubT
  obtain ⟨t, p, e, ht, _, hp, hl⟩ := enc_shape (UInt8.ofNat h.toNat :: r.toList)
  rw [e]
  unfold padT
  intro hm
  rcases List.mem_append.1 hm with hc | hc
  · have := (b64_range 32 (List.all_eq_true.1 ht 32 hc)).1; revert this; decide
  · rw [List.mem_replicate] at hc; revert hc; simp
theorem vecOf_autR (r : Aut) : vecOf 16 r.toList = r := by
  apply Vector.toList_inj.1
  exact vecOf_toList (by simp)
theorem pub_back (h : Int) (r : Aut) (h1 : 1 ≤ h) (h2 : h ≤ 8) : pubE (pubT h r) = 0 ∧ pubH (pubT h r) = h ∧ pubR (pubT h r) = r := by
  obtain ⟨d1, d2⟩ := dec_enc (UInt8.ofNat h.toNat :: r.toList) (by simp)
  have hu : ((UInt8.ofNat h.toNat).toNat : Int) = h := by rw [UInt8.toNat_ofNat']; omega
  have he : pubE (pubT h r) = 0 := by
    unfold pubE pubT
    rw [d1, d2, if_neg (by simp), if_neg (by simp), if_neg (by simp), List.headD_cons, hu]
    unfold heightErr; rw [if_neg (by omega)]
  refine ⟨he, ?_, ?_⟩
  · unfold pubH; rw [if_pos he]; unfold pubT; rw [d2, List.headD_cons, hu]
  · unfold pubR; rw [if_pos he]; unfold pubT; rw [d2]; exact vecOf_autR r
theorem rt5 (nu h : Int) (r : Aut) (n1 : 1 ≤ nu) (n2 : nu ≤ 1000) (h1 : 1 ≤ h) (h2 : h ≤ 8) : parseS (Lib.join [bl (kindS 5), bl (itoaS nu), pubT h r] [32]) = ({ cm0 5 with number := nu, height := h, root := r }, 0, 0) := by
  rw [itoa_nat nu (by omega)]
  obtain ⟨i1, i2⟩ := nb_fldI nu (by omega) (by omega)
  have hn : (Lib.join [bl (kindS 5), Lib.decDigits nu.toNat, pubT h r] [32]).length = (bl (kindS 5)).length + 1 + (Lib.decDigits nu.toNat).length + 1 + (pubT h r).length := by rw [join_len2, join_len2, join_len1]; omega
  have hk := kind_len 5 (by decide) (by decide)
  have hpl := (fld_pub h r).2
  obtain ⟨p1, p2, p3⟩ := pub_back h r h1 h2
  rw [parse_words (nb3 (nb_kind 5 (by decide) (by decide)) i1 (nb_pub h r)) kind5 (by omega), hn]
  show finP _ (read5 _ _) = _
  have hnum := numE_dec (lo := 1) (hi := 1000) (u := nu.toNat) (by omega) (by omega) (by omega)
  unfold read5
  rw [num_one _ _ _ _ _ _ _ _ hnum.1, hnum.2]
  simp only
  rw [pub_one _ _ _ _ _ _ p1, p2, p3]
  have e : (nu.toNat : Int) = nu := by omega
  rw [e]
  exact fin_one _ _ _ _
end Go.Proofs.YtcdcmohccbhchaaGreatDoor

namespace Go.Proofs.YtcdcmohccbhchaaGreatDoor
open Go.RowKit

theorem join_app : ∀ (l m : List Str), l ≠ [] → m ≠ [] → Lib.join (l ++ m) [32] = Lib.join l [32] ++ 32 :: Lib.join m [32]
  | [], _, h, _ => absurd rfl h
  | [a], b :: m, _, _ => by rw [List.singleton_append, join_cons2, Lib.join_one, List.append_assoc]; rfl
  | [a], [], _, h => absurd rfl h
  | a :: b :: l, m, _, h => by
    have ih := join_app (b :: l) m (by simp) h
    rw [List.cons_append, List.cons_append, join_cons2, ← List.cons_append, ih, join_cons2, List.append_assoc, List.append_assoc, List.append_assoc]
theorem rest_one {s pre tx : Str} {st f a : Nat} {T : List Str} (hT : T ≠ []) (hs : s = pre ++ 32 :: tx) (hf : pre.length = f) (h0 : tx ≠ []) (he : textErr tx = 0) : (⟨st, f, T, a, 0⟩ : PS).restP s = (⟨f + 1, s.length, [], a, 0⟩, tx) := by
  have hd : s.drop (f + 1) = tx := by rw [hs, ← hf]; simp
  unfold PS.restP
  rw [if_neg (by rintro (h | h); exact h rfl; exact hT h)]
  simp only [hd]
  unfold restE
  rw [if_neg h0, he, fail_zero]
theorem rest_none {s : Str} {st f a : Nat} : (⟨st, f, [], a, 0⟩ : PS).restP s = (⟨st, f, [], a, 0⟩, []) := by
  unfold PS.restP; rw [if_pos (.inr rfl)]
def modW (m : Bool) (l : List Aut) : List Str := if m = true then [modT, Lib.join (l.map fun a => hexT a.toList) [44]] else [openT]
theorem auts_back {l : List Aut} (h : modsErr l = 0) : autsE (Lib.join (l.map fun a => hexT a.toList) [44]) = 0 ∧ autsV (Lib.join (l.map fun a => hexT a.toList) [44]) = l := by
  unfold modsErr at h
  by_cases h0 : l.length = 0
  · rw [if_pos h0] at h; cases h
  rw [if_neg h0] at h
  by_cases h8 : 8 < l.length
  · rw [if_pos h8] at h; cases h
  rw [if_neg h8] at h
  by_cases hi : incA l = false
  · rw [if_pos hi] at h; cases h
  have hsp : splitL 44 (Lib.join (l.map fun a => hexT a.toList) [44]) = l.map fun a => hexT a.toList := split_join 44 _ (fun e => h0 (by simpa using congrArg List.length e)) (fun w hw => by
    obtain ⟨a, _, rfl⟩ := List.mem_map.1 hw
    intro hm
    have := List.all_eq_true.1 (hexT_hex a.toList) 44 hm
    revert this; decide)
  have hv : autsV (Lib.join (l.map fun a => hexT a.toList) [44]) = l := by
    unfold autsV; rw [hsp, List.map_map]
    conv => rhs; rw [← List.map_id l]
    exact List.map_congr_left fun a _ => autOf_autT a
  refine ⟨?_, hv⟩
  unfold autsE
  rw [hv, hsp, if_neg, if_neg (by simpa using h8), if_neg hi]
  intro hany
  obtain ⟨w, hw, hb⟩ := List.any_eq_true.1 hany
  obtain ⟨a, _, rfl⟩ := List.mem_map.1 hw
  have := autErr_autT a
  unfold autT at this
  simp [this] at hb
theorem mode_read (n st f a : Nat) (T : List Str) (m : Bool) (l : List Aut) (h : (if m = false then (if 0 < l.length then (3 : Int) else 0) else modsErr l) = 0) : ∃ st', (⟨st, f, modW m l ++ T, a, 0⟩ : PS).modeP n = (⟨st', f + 1 + (Lib.join (modW m l) [32]).length, T, a, 0⟩, m, l) := by
  cases m with
  | false =>
    have hl : l = [] := by
      rw [if_pos rfl] at h
      by_cases h0 : 0 < l.length
      · rw [if_pos h0] at h; cases h
      · exact List.length_eq_zero_iff.1 (by omega)
    subst hl
    exact ⟨_, by rw [show modW false [] = [openT] from rfl, List.singleton_append, mode_open, Lib.join_one]⟩
  | true =>
    rw [if_neg (by simp)] at h
    obtain ⟨h1, h2⟩ := auts_back h
    refine ⟨f + 1 + modT.length + 1, ?_⟩
    rw [show modW true l = [modT, Lib.join (l.map fun a => hexT a.toList) [44]] from rfl, List.cons_append, List.singleton_append, mode_mod _ _ _ _ _ _ h1, h2, join_len2, join_len1]
    have e : f + 1 + modT.length + 1 + (Lib.join (l.map fun a => hexT a.toList) [44]).length = f + 1 + (modT.length + 1 + (Lib.join (l.map fun a => hexT a.toList) [44]).length) := by omega
    rw [e]
theorem nb_modW (m : Bool) (l : List Aut) : ∀ w ∈ modW m l, (32 : UInt8) ∉ w := by
  intro w hw
  cases m with
  | false => rw [show modW false l = [openT] from rfl, List.mem_singleton] at hw; subst hw; decide
  | true =>
    rw [show modW true l = [modT, Lib.join (l.map fun a => hexT a.toList) [44]] from rfl] at hw
    rcases List.mem_cons.1 hw with rfl | hw
    · decide
    · rw [List.mem_singleton.1 hw]
      have gen : ∀ L : List Aut, (32 : UInt8) ∉ Lib.join (L.map fun a => hexT a.toList) [44] := by
        intro L
        induction L with
        | nil => simp [Lib.join]
        | cons a L ih =>
          have ha : (32 : UInt8) ∉ hexT a.toList := fun h => by have := (mem_hex h).1; revert this; decide
          cases L with
          | nil => rw [List.map_cons, List.map_nil, Lib.join_one]; exact ha
          | cons b L =>
            rw [List.map_cons, List.map_cons, join_cons2]
            intro h
            rcases List.mem_append.1 h with h | h
            · rcases List.mem_append.1 h with h | h
              · exact ha h
              · revert h; decide
            · exact ih h
      exact gen l
theorem modW_ne (m : Bool) (l : List Aut) : modW m l ≠ [] := by cases m <;> simp [modW]
theorem rt3 (g : ByteArray) (v : Int) (m : Bool) (l : List Aut) (tx : ByteArray) (hg : nameErr g = 0) (h0 : 0 ≤ v) (h1 : v ≤ 1000000) (hm : (if m = false then (if 0 < l.length then (3 : Int) else 0) else modsErr l) = 0) (ht : textErr (bl tx) = 0) (T : List Str) (hT : T = if bl tx = [] then [] else splitL 32 (bl tx)) (hl : (Lib.join (bl (kindS 3) :: bl g :: bl (itoaS v) :: (modW m l ++ T)) [32]).length ≤ 1000) :
    parseS (Lib.join (bl (kindS 3) :: bl g :: bl (itoaS v) :: (modW m l ++ T)) [32]) = ({ cm0 3 with group := g, version := v, moderated := m, mods := l, text := tx }, 0, 0) := by
  rw [itoa_nat v h0] at hl ⊢
  obtain ⟨i1, i2⟩ := nb_fldI v h0 h1
  obtain ⟨g1, g2, g3⟩ := name_ok hg
  have hnb : ∀ w ∈ bl (kindS 3) :: bl g :: Lib.decDigits v.toNat :: (modW m l ++ T), (32 : UInt8) ∉ w := by
    intro w hw
    rcases List.mem_cons.1 hw with rfl | hw
    · exact nb_kind 3 (by decide) (by decide)
    rcases List.mem_cons.1 hw with rfl | hw
    · exact nb_of g3
    rcases List.mem_cons.1 hw with rfl | hw
    · exact i1
    rcases List.mem_append.1 hw with hw | hw
    · exact nb_modW m l w hw
    · rw [hT] at hw
      split at hw
      · cases hw
      · exact split_clean hw
  rw [parse_words hnb kind3 hl]
  have hnum := numE_dec (lo := 0) (hi := 1000000) (u := v.toNat) (by omega) (by omega) (by omega)
  have hv : (v.toNat : Int) = v := by omega
  have hmne := modW_ne m l
  have hpre : (Lib.join (bl (kindS 3) :: bl g :: Lib.decDigits v.toNat :: modW m l) [32]).length = 0 + (bl (kindS 3)).length + 1 + (bl g).length + 1 + (Lib.decDigits v.toNat).length + 1 + (Lib.join (modW m l) [32]).length := by
    have e : bl (kindS 3) :: bl g :: Lib.decDigits v.toNat :: modW m l = [bl (kindS 3), bl g, Lib.decDigits v.toNat] ++ modW m l := rfl
    rw [e, join_app _ _ (by simp) hmne, List.length_append, List.length_cons, join_len2, join_len2, join_len1]; omega
  generalize hS : Lib.join (bl (kindS 3) :: bl g :: Lib.decDigits v.toNat :: (modW m l ++ T)) [32] = S at *
  show finP _ (read3 _ _ _) = _
  unfold read3
  simp only
  rw [group_one _ _ _ _ _ _ (groupE_bl hg)]
  simp only
  rw [num_one _ _ _ _ _ _ _ _ hnum.1, hnum.2, hv]
  simp only
  obtain ⟨st', hmr⟩ := mode_read S.length ((bl (kindS 3)).length + 1 + (bl g).length + 1) ((bl (kindS 3)).length + 1 + (bl g).length + 1 + (Lib.decDigits v.toNat).length) 0 T m l hm
  rw [hmr]
  simp only
  by_cases htx : bl tx = []
  · rw [if_pos htx] at hT
    subst hT
    rw [rest_none]
    simp only
    rw [List.append_nil] at hS
    have hf : (bl (kindS 3)).length + 1 + (bl g).length + 1 + (Lib.decDigits v.toNat).length + 1 + (Lib.join (modW m l) [32]).length = S.length := by rw [← hS, hpre]; omega
    rw [hf, fin_one]
    have e : tx = bs [] := by rw [← htx]; rfl
    rw [e]; rfl
  · rw [if_neg htx] at hT
    have hTn : T ≠ [] := by rw [hT]; exact splitL_ne _ _
    have hs2 : S = Lib.join (bl (kindS 3) :: bl g :: Lib.decDigits v.toNat :: modW m l) [32] ++ 32 :: bl tx := by
      have e : bl (kindS 3) :: bl g :: Lib.decDigits v.toNat :: (modW m l ++ T) = (bl (kindS 3) :: bl g :: Lib.decDigits v.toNat :: modW m l) ++ T := rfl
      rw [← hS, e, join_app _ _ (by simp) hTn, hT, join_split]
    rw [rest_one hTn hs2 (by rw [hpre]; omega) htx ht]
    simp only
    rw [fin_one]
    rfl
end Go.Proofs.YtcdcmohccbhchaaGreatDoor

namespace Go.Proofs.YtcdcmohccbhchaaGreatDoor
open Go.RowKit

theorem strip_of {c : Cm} (h : foreign c = false) : strip c = cm0 c.kind := by
  unfold foreign at h; simpa using h
theorem bl_modeS (c : Cm) : bl (modeS c) = Lib.join (modW c.moderated c.mods) [32] := by
  unfold modeS modW
  split
  · rw [bl_bs, join2, List.append_assoc]; rfl
  · rw [bl_bs, Lib.join_one]
theorem join_in (x M y : List Str) (hx : x ≠ []) (hM : M ≠ []) : Lib.join (x ++ ([Lib.join M [32]] ++ y)) [32] = Lib.join (x ++ (M ++ y)) [32] := by
  cases y with
  | nil => rw [List.append_nil, List.append_nil, join_app _ _ hx (by simp), join_app _ _ hx hM, Lib.join_one]
  | cons a y =>
    rw [join_app _ _ hx (by simp), join_app _ _ hx (by simp), join_app _ _ (by simp) (by simp), join_app M _ hM (by simp), Lib.join_one]
theorem rt_all {c : Cm} (h : cmErr c = 0) : parseS (printS c) = (c, 0, 0) := by
  have hlen := (print_fld h).2
  obtain ⟨k1, k5, hf⟩ := cm_good h
  have hs := strip_of hf
  obtain ⟨k, t, g, n, m, l, tx, nu, ht, r⟩ := c
  simp only at k1 k5
  have : k = 1 ∨ k = 2 ∨ k = 4 ∨ k = 5 ∨ k = 3 := by omega
  rcases this with rfl | rfl | rfl | rfl | rfl
  · rw [err1 _ _ _ _ _ _ _ _ _ hf] at h
    have h1 : t ≠ zId := fun e => by rw [if_pos e] at h; cases h
    simp only [strip, cm0, if_true, Cm.mk.injEq] at hs
    obtain ⟨-, -, rfl, rfl, rfl, rfl, rfl, rfl, rfl, rfl⟩ := hs
    exact rt1 t h1
  · have hg := good2 h
    rw [err2 _ _ _ _ _ _ _ _ _ hf] at h
    have h1 : t ≠ zId := fun e => by rw [if_pos e] at h; cases h
    simp only [strip, cm0] at hs
    obtain ⟨-, -, -, rfl, rfl, rfl, rfl, rfl, rfl, rfl⟩ := hs
    exact rt2 t g h1 hg
  · obtain ⟨hg, h0, h1⟩ := good4 h
    simp only [strip, cm0] at hs
    obtain ⟨-, rfl, -, -, rfl, rfl, rfl, rfl, rfl, rfl⟩ := hs
    exact rt4 g n hg h0 h1
  · obtain ⟨h0, h1, h2, h3⟩ := good5 h
    simp only [strip, cm0] at hs
    obtain ⟨-, rfl, rfl, rfl, rfl, rfl, rfl, -, -, -⟩ := hs
    exact rt5 nu ht r h0 h1 h2 h3
  · obtain ⟨hg, h0, h1, hm, htx⟩ := good3 h
    simp only [strip, cm0] at hs
    obtain ⟨-, rfl, -, -, -, -, -, rfl, rfl, rfl⟩ := hs
    have hp : printS ⟨3, zId, g, n, m, l, tx, 0, 0, zAut⟩ = Lib.join (bl (kindS 3) :: bl g :: bl (itoaS n) :: (modW m l ++ (if bl tx = [] then [] else splitL 32 (bl tx)))) [32] := by
      have e1 : printS ⟨3, zId, g, n, m, l, tx, 0, 0, zAut⟩ = Lib.join ([bl (kindS 3), bl g, bl (itoaS n)] ++ ([Lib.join (modW m l) [32]] ++ (if bl tx = [] then [] else [bl tx]))) [32] := by
        unfold printS wordsP
        rw [if_neg (show ¬ (3 : Int) = 1 by decide), if_neg (show ¬ (3 : Int) = 2 by decide), if_pos rfl]
        have hb : (tx = ⟨#[]⟩) ↔ bl tx = [] := ⟨fun e => by rw [e]; rfl, fun e => by rw [← bs_bl tx, e]; rfl⟩
        rw [← bl_modeS ⟨3, zId, g, n, m, l, tx, 0, 0, zAut⟩]
        by_cases ht : bl tx = []
        · rw [if_pos ht, if_pos (hb.2 ht)]; rfl
        · rw [if_neg ht, if_neg (fun e => ht (hb.1 e))]; rfl
      rw [e1, join_in _ _ _ (by simp) (modW_ne m l)]
      by_cases ht : bl tx = []
      · rw [if_pos ht, if_pos ht]; rfl
      · rw [if_neg ht, if_neg ht, ← List.append_assoc, join_app _ _ (by simp) (by simp), Lib.join_one]
        have e2 : bl (kindS 3) :: bl g :: bl (itoaS n) :: (modW m l ++ splitL 32 (bl tx)) = ([bl (kindS 3), bl g, bl (itoaS n)] ++ modW m l) ++ splitL 32 (bl tx) := rfl
        rw [e2, join_app _ _ (by simp) (splitL_ne _ _), join_split]
    rw [hp] at hlen ⊢
    exact rt3 g n m l tx hg h0 h1 hm htx _ rfl (by omega)
end Go.Proofs.YtcdcmohccbhchaaGreatDoor

namespace Go.Proofs.YtcdcmohccbhchaaGreatDoor
open Go.RowKit

theorem fail_inv {p : PS} {a : Nat} {e : Int} (h : (p.fail a e).e = 0) : e = 0 ∧ p.e = 0 ∧ p.fail a e = p := by
  by_cases he : e = 0
  · subst he; rw [fail_zero] at h ⊢; exact ⟨rfl, h, rfl⟩
  · exfalso
    by_cases hp : p.e = 0
    · have : p.fail a e = { p with at_ := a, e := e } := by unfold PS.fail; rw [if_pos ⟨hp, he⟩]
      rw [this] at h; exact he h
    · have : p.fail a e = p := by unfold PS.fail; rw [if_neg (fun q => hp q.1)]
      rw [this] at h; exact hp h
theorem next_inv {p : PS} {n : Nat} (h : (p.next n).1.e = 0) : p.e = 0 ∧ ∃ w rest, p.rest = w :: rest ∧ p.next n = (⟨p.fin + 1, p.fin + 1 + w.length, rest, p.at_, 0⟩, w, true) := by
  obtain ⟨st, f, R, a, e⟩ := p
  by_cases he : e = 0
  · subst he
    cases R with
    | nil => rw [next_none] at h; exact absurd h (by simp)
    | cons w rest => exact ⟨rfl, w, rest, rfl, next_one n st f a rest w⟩
  · exfalso
    have : (⟨st, f, R, a, e⟩ : PS).next n = (⟨st, f, R, a, e⟩, [], false) := by unfold PS.next; rw [if_pos he]
    rw [this] at h; exact he h
theorem target_inv {p : PS} {n : Nat} (h : (p.targetP n).1.e = 0) : p.e = 0 ∧ ∃ w rest, p.rest = w :: rest ∧ targetE w = 0 ∧ p.targetP n = (⟨p.fin + 1, p.fin + 1 + w.length, rest, p.at_, 0⟩, midV w) := by
  unfold PS.targetP at h ⊢
  by_cases hb : (p.next n).2.2 = true
  · rw [if_pos hb] at h ⊢
    obtain ⟨h1, h2, _⟩ := fail_inv h
    obtain ⟨h4, w, rest, h5, h6⟩ := next_inv h2
    rw [h6] at h1 ⊢
    simp only at h1
    exact ⟨h4, w, rest, h5, h1, by simp only [h1, fail_zero]⟩
  · rw [if_neg hb] at h
    obtain ⟨h4, w, rest, h5, h6⟩ := next_inv h
    rw [h6] at hb; exact absurd rfl hb
theorem group_inv {p : PS} {n : Nat} (h : (p.groupP n).1.e = 0) : p.e = 0 ∧ ∃ w rest, p.rest = w :: rest ∧ groupE w = 0 ∧ p.groupP n = (⟨p.fin + 1, p.fin + 1 + w.length, rest, p.at_, 0⟩, w) := by
  unfold PS.groupP at h ⊢
  by_cases hb : (p.next n).2.2 = true
  · rw [if_pos hb] at h ⊢
    obtain ⟨h1, h2, _⟩ := fail_inv h
    obtain ⟨h4, w, rest, h5, h6⟩ := next_inv h2
    rw [h6] at h1 ⊢
    simp only at h1
    exact ⟨h4, w, rest, h5, h1, by simp only [h1, fail_zero]⟩
  · rw [if_neg hb] at h
    obtain ⟨h4, w, rest, h5, h6⟩ := next_inv h
    rw [h6] at hb; exact absurd rfl hb
theorem num_inv {p : PS} {n : Nat} {lo hi : Int} (h : (p.numP n lo hi).1.e = 0) : p.e = 0 ∧ ∃ w rest, p.rest = w :: rest ∧ numE lo hi w = 0 ∧ p.numP n lo hi = (⟨p.fin + 1, p.fin + 1 + w.length, rest, p.at_, 0⟩, numV w) := by
  unfold PS.numP at h ⊢
  by_cases hb : (p.next n).2.2 = true
  · rw [if_pos hb] at h ⊢
    obtain ⟨h1, h2, _⟩ := fail_inv h
    obtain ⟨h4, w, rest, h5, h6⟩ := next_inv h2
    rw [h6] at h1 ⊢
    simp only at h1
    exact ⟨h4, w, rest, h5, h1, by simp only [h1, fail_zero]⟩
  · rw [if_neg hb] at h
    obtain ⟨h4, w, rest, h5, h6⟩ := next_inv h
    rw [h6] at hb; exact absurd rfl hb
theorem pub_inv {p : PS} {n : Nat} (h : (p.pubP n).1.e = 0) : p.e = 0 ∧ ∃ w rest, p.rest = w :: rest ∧ pubE w = 0 ∧ p.pubP n = (⟨p.fin + 1, p.fin + 1 + w.length, rest, p.at_, 0⟩, pubH w, pubR w) := by
  unfold PS.pubP at h ⊢
  by_cases hb : (p.next n).2.2 = true
  · rw [if_pos hb] at h ⊢
    obtain ⟨h1, h2, _⟩ := fail_inv h
    obtain ⟨h4, w, rest, h5, h6⟩ := next_inv h2
    rw [h6] at h1 ⊢
    simp only at h1
    exact ⟨h4, w, rest, h5, h1, by simp only [h1, fail_zero]⟩
  · rw [if_neg hb] at h
    obtain ⟨h4, w, rest, h5, h6⟩ := next_inv h
    rw [h6] at hb; exact absurd rfl hb
theorem auts_inv {p : PS} {n : Nat} (h : (p.autsP n).1.e = 0) : p.e = 0 ∧ ∃ w rest, p.rest = w :: rest ∧ autsE w = 0 ∧ p.autsP n = (⟨p.fin + 1, p.fin + 1 + w.length, rest, p.at_, 0⟩, true, autsV w) := by
  unfold PS.autsP at h ⊢
  by_cases hb : (p.next n).2.2 = true
  · rw [if_pos hb] at h ⊢
    obtain ⟨h1, h2, _⟩ := fail_inv h
    obtain ⟨h4, w, rest, h5, h6⟩ := next_inv h2
    rw [h6] at h1 ⊢
    simp only at h1
    exact ⟨h4, w, rest, h5, h1, by simp only [h1, fail_zero]⟩
  · rw [if_neg hb] at h
    obtain ⟨h4, w, rest, h5, h6⟩ := next_inv h
    rw [h6] at hb; exact absurd rfl hb
theorem auts_text {w : Str} (h : autsE w = 0) : modsErr (autsV w) = 0 ∧ Lib.join ((autsV w).map fun a => hexT a.toList) [44] = w := by
  unfold autsE at h
  by_cases h1 : ((splitL 44 w).any fun x => decide ((autErr x).2 ≠ 0)) = true
  · rw [if_pos h1] at h; cases h
  rw [if_neg h1] at h
  by_cases h2 : 8 < (splitL 44 w).length
  · rw [if_pos h2] at h; cases h
  rw [if_neg h2] at h
  by_cases h3 : incA (autsV w) = false
  · rw [if_pos h3] at h; cases h
  have hl : (autsV w).length = (splitL 44 w).length := by unfold autsV; rw [List.length_map]
  constructor
  · unfold modsErr
    rw [if_neg, if_neg (by omega), if_neg h3]
    intro e
    exact splitL_ne 44 w (List.length_eq_zero_iff.1 (by omega))
  · have hm : (autsV w).map (fun a => hexT a.toList) = splitL 44 w := by
      unfold autsV
      rw [List.map_map]
      conv => rhs; rw [← List.map_id (splitL 44 w)]
      refine List.map_congr_left fun x hx => ?_
      refine autT_autOf (s := x) (Decidable.byContradiction fun hne => h1 (List.any_eq_true.2 ⟨x, hx, by simp [hne]⟩))
    rw [hm, join_split]
theorem mode_inv {p : PS} {n : Nat} (h : (p.modeP n).1.e = 0) : p.e = 0 ∧ ∃ st m l rest, p.rest = modW m l ++ rest ∧ (if m = false then (if 0 < l.length then (3 : Int) else 0) else modsErr l) = 0 ∧ p.modeP n = (⟨st, p.fin + 1 + (Lib.join (modW m l) [32]).length, rest, p.at_, 0⟩, m, l) := by
  unfold PS.modeP at h ⊢
  by_cases hb : (p.next n).2.2 = false ∨ (p.next n).2.1 = openT
  · rw [if_pos hb] at h ⊢
    obtain ⟨h4, w, rest, h5, h6⟩ := next_inv h
    rw [h6] at hb ⊢
    have hw : w = openT := by
      rcases hb with hb | hb
      · cases hb
      · exact hb
    subst hw
    exact ⟨h4, p.fin + 1, false, [], rest, h5, rfl, by rw [show modW false [] = [openT] from rfl, Lib.join_one]⟩
  · rw [if_neg hb] at h ⊢
    by_cases hm : (p.next n).2.1 ≠ modT
    · rw [if_pos hm] at h; exact absurd (fail_inv h).1 (by decide)
    · rw [if_neg hm] at h ⊢
      obtain ⟨h0, w, rest, h1, h2, h3⟩ := auts_inv h
      obtain ⟨h4, w', rest', h5, h6⟩ := next_inv h0
      have hw : w' = modT := by rw [h6] at hm; simpa using hm
      subst hw
      rw [h3]
      rw [h6] at h1 ⊢
      simp only at h1 ⊢
      obtain ⟨e1, e2⟩ := auts_text h2
      have hW : modW true (autsV w) = [modT, w] := by unfold modW; rw [if_pos rfl, e2]
      refine ⟨h4, p.fin + 1 + modT.length + 1, true, autsV w, rest, ?_, ?_, ?_⟩
      · rw [h5, h1, hW]; rfl
      · rw [if_neg (by simp)]; exact e1
      · rw [hW, join_len2, join_len1]
        have e : p.fin + 1 + modT.length + 1 + w.length = p.fin + 1 + (modT.length + 1 + w.length) := by omega
        rw [e]
theorem rest_inv {p : PS} {s : Str} (h : (p.restP s).1.e = 0) : p.e = 0 ∧ ((p.rest = [] ∧ p.restP s = (p, [])) ∨ (p.rest ≠ [] ∧ s.drop (p.fin + 1) ≠ [] ∧ textErr (s.drop (p.fin + 1)) = 0 ∧ p.restP s = (⟨p.fin + 1, s.length, [], p.at_, 0⟩, s.drop (p.fin + 1)))) := by
  unfold PS.restP at h ⊢
  by_cases hb : p.e ≠ 0 ∨ p.rest = []
  · rw [if_pos hb] at h ⊢
    refine ⟨h, .inl ⟨?_, rfl⟩⟩
    rcases hb with hb | hb
    · exact absurd h hb
    · exact hb
  · rw [if_neg hb] at h ⊢
    obtain ⟨h1, h2, _⟩ := fail_inv h
    have hr : p.rest ≠ [] := fun e => hb (.inr e)
    have hd : s.drop (p.fin + 1) ≠ [] ∧ textErr (s.drop (p.fin + 1)) = 0 := by
      unfold restE at h1
      by_cases hd : s.drop (p.fin + 1) = []
      · rw [if_pos hd] at h1; cases h1
      · rw [if_neg hd] at h1; exact ⟨hd, h1⟩
    have he : p.e = 0 := h2
    refine ⟨he, .inr ⟨hr, hd.1, hd.2, ?_⟩⟩
    rw [h1, fail_zero, he]
theorem fin_inv {s : Str} {r : PS × Cm} (h : (finP s.length r).2.2 = 0) (hok : PSok s r.1) : r.1.e = 0 ∧ r.1.rest = [] ∧ finP s.length r = (r.2, 0, 0) := by
  unfold finP at h ⊢
  by_cases he : (finS s.length r.1).e ≠ 0
  · rw [if_pos he] at h; exact absurd h he
  · rw [if_neg he]
    have he : (finS s.length r.1).e = 0 := Decidable.byContradiction he
    unfold finS at he
    by_cases hf : r.1.fin < s.length
    · rw [if_pos hf] at he; exact absurd (fail_inv he).1 (by decide)
    · rw [if_neg hf] at he
      exact ⟨he, hok.end_.2 (by have := hok.1; omega), rfl⟩
/-! ### words and their values -/
theorem num_back {lo hi : Int} {w : Str} (h : numE lo hi w = 0) (_h0 : 0 ≤ lo) : lo ≤ numV w ∧ numV w ≤ hi ∧ bl (itoaS (numV w)) = w := by
  unfold numE at h
  by_cases h1 : numB w = false
  · rw [if_pos h1] at h; cases h
  rw [if_neg h1] at h
  by_cases h2 : (numL w : Int) < lo ∨ hi < (numL w : Int)
  · rw [if_pos h2] at h; cases h
  have hb : numB w = true := by simpa using h1
  have hv : numV w = (numL w : Int) := by unfold numV; rw [if_pos hb]
  rw [hv]
  refine ⟨by omega, by omega, ?_⟩
  rw [itoa_nat _ (by omega), Int.toNat_natCast, numB_back hb]
theorem pub_text {w : Str} (h : pubE w = 0) : pubT (pubH w) (pubR w) = w ∧ heightErr (pubH w) = 0 := by
  have hH : pubH w = (((decB w).headD 0).toNat : Int) := by unfold pubH; rw [if_pos h]
  have hR : pubR w = vecOf 16 ((decB w).drop 1) := by unfold pubR; rw [if_pos h]
  unfold pubE at h
  by_cases h1 : decE w ≠ 0
  · rw [if_pos h1] at h; exact absurd h h1
  rw [if_neg h1] at h
  by_cases h2 : (decB w).length < 17
  · rw [if_pos h2] at h; cases h
  rw [if_neg h2] at h
  by_cases h3 : 17 < (decB w).length
  · rw [if_pos h3] at h; cases h
  rw [if_neg h3] at h
  rw [hH]
  refine ⟨?_, h⟩
  rw [hR]
  unfold pubT
  rw [vecOf_toList (by rw [List.length_drop]; omega), Int.toNat_natCast]
  have hcons : UInt8.ofNat ((decB w).headD 0).toNat :: (decB w).drop 1 = decB w := by
    cases hd : decB w with
    | nil => rw [hd] at h2; exact absurd (by decide) h2
    | cons a l => simp
  rw [hcons]
  exact enc_dec (Decidable.byContradiction h1)
theorem target_back {w : Str} (h : targetE w = 0) : midV w ≠ zId ∧ midT (midV w) = w := by
  unfold targetE at h
  by_cases h1 : midB w = false
  · rw [if_pos h1] at h; cases h
  rw [if_neg h1] at h
  by_cases h2 : midV w = zId
  · rw [if_pos h2] at h; cases h
  exact ⟨h2, midT_midV (by simpa using h1)⟩
theorem group_back {w : Str} (h : groupE w = 0) : nameErr (bs w) = 0 := by
  unfold groupE at h
  by_cases h1 : nameErr (bs w) ≠ 0
  · rw [if_pos h1] at h; cases h
  · exact Decidable.byContradiction h1
theorem foreign_of {c : Cm} (h : strip c = cm0 c.kind) : foreign c = false := by unfold foreign; rw [h]; simp
/-! ### kind by kind -/
/-- What is asked of a command that was parsed. -/
def Good (c : Cm) (s : Str) : Prop := cmErr c = 0 ∧ printS c = s ∧ c.mods.length ≤ 8 ∧ c.text.size ≤ 200
section
variable {s w0 : Str} {ws : List Str} (hsp : splitL 32 s = w0 :: ws)
include hsp
theorem s_join : s = Lib.join (w0 :: ws) [32] := by rw [← hsp, join_split]
theorem can1 (hk : bl (kindS 1) = w0) (h : (finP s.length (read1 s.length ⟨0, w0.length, ws, 0, 0⟩)).2.2 = 0) : Good (finP s.length (read1 s.length ⟨0, w0.length, ws, 0, 0⟩)).1 s := by
  obtain ⟨h1, h2, h3⟩ := fin_inv h ((PSok.start hsp).target s.length)
  rw [h3]
  unfold read1 at h1 h2 ⊢
  obtain ⟨_, w, rest, h5, h6, h7⟩ := target_inv h1
  rw [h7] at h2 ⊢
  simp only at h2 h5 ⊢
  subst h2 h5
  obtain ⟨b1, b2⟩ := target_back h6
  refine ⟨?_, ?_, Nat.zero_le _, Nat.zero_le _⟩
  · have hf0 : foreign ⟨1, midV w, ⟨#[]⟩, 0, false, [], ⟨#[]⟩, 0, 0, zAut⟩ = false := foreign_of rfl
    show cmErr ⟨1, midV w, ⟨#[]⟩, 0, false, [], ⟨#[]⟩, 0, 0, zAut⟩ = 0
    rw [err1 _ _ _ _ _ _ _ _ _ hf0, if_neg b1]
  · show Lib.join [bl (kindS 1), midT (midV w)] [32] = s
    rw [b2, hk, s_join hsp]
theorem can2 (hk : bl (kindS 2) = w0) (h : (finP s.length (read2 s.length ⟨0, w0.length, ws, 0, 0⟩)).2.2 = 0) : Good (finP s.length (read2 s.length ⟨0, w0.length, ws, 0, 0⟩)).1 s := by
  obtain ⟨h1, h2, h3⟩ := fin_inv h (((PSok.start hsp).target s.length).group s.length)
  rw [h3]
  unfold read2 at h1 h2 ⊢
  simp only at h1 h2 ⊢
  obtain ⟨h4, w2, rest2, k5, k6, k7⟩ := group_inv h1
  obtain ⟨_, w, rest, h5, h6, h7⟩ := target_inv h4
  rw [k7] at h2 ⊢
  rw [h7] at k5 ⊢
  simp only at h2 h5 k5 ⊢
  subst h2 k5 h5
  obtain ⟨b1, b2⟩ := target_back h6
  have b3 := group_back k6
  refine ⟨?_, ?_, Nat.zero_le _, Nat.zero_le _⟩
  · have hf0 : foreign ⟨2, midV w, bs w2, 0, false, [], ⟨#[]⟩, 0, 0, zAut⟩ = false := foreign_of rfl
    show cmErr ⟨2, midV w, bs w2, 0, false, [], ⟨#[]⟩, 0, 0, zAut⟩ = 0
    rw [err2 _ _ _ _ _ _ _ _ _ hf0, if_neg b1, if_neg (by simp [b3])]
  · show Lib.join [bl (kindS 2), midT (midV w), w2] [32] = s
    rw [b2, hk, s_join hsp]
theorem can4 (hk : bl (kindS 4) = w0) (h : (finP s.length (read4 s.length ⟨0, w0.length, ws, 0, 0⟩)).2.2 = 0) : Good (finP s.length (read4 s.length ⟨0, w0.length, ws, 0, 0⟩)).1 s := by
  obtain ⟨h1, h2, h3⟩ := fin_inv h (((PSok.start hsp).group s.length).num s.length 0 1000000)
  rw [h3]
  unfold read4 at h1 h2 ⊢
  simp only at h1 h2 ⊢
  obtain ⟨h4, w2, rest2, k5, k6, k7⟩ := num_inv h1
  obtain ⟨_, w, rest, h5, h6, h7⟩ := group_inv h4
  rw [k7] at h2 ⊢
  rw [h7] at k5 ⊢
  simp only at h2 h5 k5 ⊢
  subst h2 k5 h5
  have b1 := group_back h6
  obtain ⟨n1, n2, n3⟩ := num_back k6 (by decide)
  refine ⟨?_, ?_, Nat.zero_le _, Nat.zero_le _⟩
  · have hf0 : foreign ⟨4, zId, bs w, numV w2, false, [], ⟨#[]⟩, 0, 0, zAut⟩ = false := foreign_of rfl
    show cmErr ⟨4, zId, bs w, numV w2, false, [], ⟨#[]⟩, 0, 0, zAut⟩ = 0
    rw [err4 _ _ _ _ _ _ _ _ _ hf0, if_neg (by simp [b1]), if_neg (by omega)]
  · show Lib.join [bl (kindS 4), w, bl (itoaS (numV w2))] [32] = s
    rw [n3, hk, s_join hsp]
theorem can5 (hk : bl (kindS 5) = w0) (h : (finP s.length (read5 s.length ⟨0, w0.length, ws, 0, 0⟩)).2.2 = 0) : Good (finP s.length (read5 s.length ⟨0, w0.length, ws, 0, 0⟩)).1 s := by
  obtain ⟨h1, h2, h3⟩ := fin_inv h (((PSok.start hsp).num s.length 1 1000).pub s.length)
  rw [h3]
  unfold read5 at h1 h2 ⊢
  simp only at h1 h2 ⊢
  obtain ⟨h4, w2, rest2, k5, k6, k7⟩ := pub_inv h1
  obtain ⟨_, w, rest, h5, h6, h7⟩ := num_inv h4
  rw [k7] at h2 ⊢
  rw [h7] at k5 ⊢
  simp only at h2 h5 k5 ⊢
  subst h2 k5 h5
  obtain ⟨n1, n2, n3⟩ := num_back h6 (by decide)
  obtain ⟨p1, p2⟩ := pub_text k6
  refine ⟨?_, ?_, Nat.zero_le _, Nat.zero_le _⟩
  · have hf0 : foreign ⟨5, zId, ⟨#[]⟩, 0, false, [], ⟨#[]⟩, numV w, pubH w2, pubR w2⟩ = false := foreign_of rfl
    show cmErr ⟨5, zId, ⟨#[]⟩, 0, false, [], ⟨#[]⟩, numV w, pubH w2, pubR w2⟩ = 0
    rw [err5 _ _ _ _ _ _ _ _ _ hf0, if_neg (by omega), p2]
  · show Lib.join [bl (kindS 5), bl (itoaS (numV w)), pubT (pubH w2) (pubR w2)] [32] = s
    rw [n3, p1, hk, s_join hsp]
theorem can3 (hk : bl (kindS 3) = w0) (h : (finP s.length (read3 s.length s ⟨0, w0.length, ws, 0, 0⟩)).2.2 = 0) : Good (finP s.length (read3 s.length s ⟨0, w0.length, ws, 0, 0⟩)).1 s := by
  obtain ⟨h1, h2, h3⟩ := fin_inv h ((((PSok.start hsp).group s.length).num s.length 0 1000000).mode s.length).rest
  rw [h3]
  unfold read3 at h1 h2 ⊢
  simp only at h1 h2 ⊢
  obtain ⟨e4, hr⟩ := rest_inv h1
  obtain ⟨e3, st, m, l, rest3, m5, m6, m7⟩ := mode_inv e4
  obtain ⟨e2, w2, rest2, k5, k6, k7⟩ := num_inv e3
  obtain ⟨_, w, rest, h5, h6, h7⟩ := group_inv e2
  rw [h7] at k5
  simp only at h5 k5
  rw [k7] at m5
  simp only at m5
  subst m5 k5 h5
  have b1 := group_back h6
  obtain ⟨n1, n2, n3⟩ := num_back k6 (by decide)
  have hmode : modeErr ⟨3, zId, bs w, numV w2, m, l, bs [], 0, 0, zAut⟩ = 0 := m6
  have hml : l.length ≤ 8 := by
    cases m with
    | false =>
      rw [if_pos rfl] at m6
      by_cases q : 0 < l.length
      · rw [if_pos q] at m6; cases m6
      · omega
    | true =>
      rw [if_neg (by simp)] at m6
      unfold modsErr at m6
      by_cases q : l.length = 0
      · omega
      · rw [if_neg q] at m6
        by_cases q8 : 8 < l.length
        · rw [if_pos q8] at m6; cases m6
        · omega
  have hbm : ∀ tx : ByteArray, bl (modeS ⟨3, zId, bs w, numV w2, m, l, tx, 0, 0, zAut⟩) = Lib.join (modW m l) [32] := fun tx => bl_modeS _
  have hf : ((((⟨0, w0.length, w :: w2 :: (modW m l ++ rest3), 0, 0⟩ : PS).groupP s.length).1.numP s.length 0 1000000).1.modeP s.length).1.fin = (Lib.join ([w0, w, w2] ++ modW m l) [32]).length := by
    rw [m7]
    simp only
    rw [k7]
    simp only
    rw [h7]
    simp only
    rw [join_app _ _ (by simp) (modW_ne m l), List.length_append, List.length_cons, join_len2, join_len2, join_len1]
    omega
  have hsj := s_join hsp
  have e0 : w0 :: w :: w2 :: (modW m l ++ rest3) = ([w0, w, w2] ++ modW m l) ++ rest3 := by simp
  rw [e0] at hsj
  rcases hr with ⟨r1, r2⟩ | ⟨r1, r2, r3, r4⟩
  · rw [r2]
    rw [m7] at r1 ⊢
    simp only at r1 ⊢
    rw [k7, h7]
    simp only
    subst r1
    refine ⟨?_, ?_, hml, Nat.zero_le _⟩
    · have hf0 : foreign ⟨3, zId, bs w, numV w2, m, l, bs [], 0, 0, zAut⟩ = false := foreign_of rfl
      show cmErr ⟨3, zId, bs w, numV w2, m, l, bs [], 0, 0, zAut⟩ = 0
      rw [err3 _ _ _ _ _ _ _ _ _ hf0, if_neg (by simp [b1]), if_neg (by omega), if_neg (by simp [hmode])]
      rfl
    · show Lib.join [bl (kindS 3), w, bl (itoaS (numV w2)), bl (modeS ⟨3, zId, bs w, numV w2, m, l, bs [], 0, 0, zAut⟩)] [32] = s
      rw [n3, hk, hbm]
      rw [List.append_nil] at hsj
      have e1 : [w0, w, w2, Lib.join (modW m l) [32]] = [w0, w, w2] ++ ([Lib.join (modW m l) [32]] ++ []) := rfl
      rw [e1, join_in _ _ _ (by simp) (modW_ne m l), List.append_nil]
      exact hsj.symm
  · rw [r4]
    rw [hf] at r2 r3 ⊢
    rw [m7] at r1 ⊢
    simp only at r1 ⊢
    rw [k7, h7]
    simp only
    rw [join_app _ _ (by simp) r1] at hsj
    have hd : s.drop ((Lib.join ([w0, w, w2] ++ modW m l) [32]).length + 1) = Lib.join rest3 [32] := by
      conv => lhs; rw [hsj]
      rw [← List.drop_drop, List.drop_left]; rfl
    rw [hd] at r2 r3 ⊢
    generalize hT : Lib.join rest3 [32] = T at *
    refine ⟨?_, ?_, hml, ?_⟩
    · have hf0 : foreign ⟨3, zId, bs w, numV w2, m, l, bs T, 0, 0, zAut⟩ = false := foreign_of rfl
      show cmErr ⟨3, zId, bs w, numV w2, m, l, bs T, 0, 0, zAut⟩ = 0
      rw [err3 _ _ _ _ _ _ _ _ _ hf0, if_neg (by simp [b1]), if_neg (by omega)]
      rw [if_neg (fun q => q (show modeErr ⟨3, zId, bs w, numV w2, m, l, bs T, 0, 0, zAut⟩ = 0 from m6))]
      exact r3
    · have hne : ¬ bs T = ⟨#[]⟩ := fun e => r2 (by have := congrArg bl e; rwa [bl_bs] at this)
      have e : printS ⟨3, zId, bs w, numV w2, m, l, bs T, 0, 0, zAut⟩ = Lib.join [bl (kindS 3), w, bl (itoaS (numV w2)), bl (modeS ⟨3, zId, bs w, numV w2, m, l, bs T, 0, 0, zAut⟩), T] [32] := by
        unfold printS wordsP; rw [if_neg (by show ¬ (3 : Int) = 1; decide), if_neg (by show ¬ (3 : Int) = 2; decide), if_pos rfl, if_neg hne]; rfl
      show printS ⟨3, zId, bs w, numV w2, m, l, bs T, 0, 0, zAut⟩ = s
      rw [e, n3, hk, hbm]
      have e1 : [w0, w, w2, Lib.join (modW m l) [32], T] = [w0, w, w2] ++ ([Lib.join (modW m l) [32]] ++ [T]) := rfl
      rw [e1, join_in _ _ _ (by simp) (modW_ne m l), ← List.append_assoc, join_app _ _ (by simp) (by simp), Lib.join_one]
      exact hsj.symm
    · unfold textErr at r3
      by_cases q : 200 < T.length
      · rw [if_pos q] at r3; cases r3
      · show (bs T).size ≤ 200
        rw [bs_size]; omega
end
theorem canon {s : Str} (h : (parseS s).2.2 = 0) : Good (parseS s).1 s := by
  unfold parseS at h ⊢
  by_cases hs : 1000 < s.length
  · rw [if_pos hs] at h; cases h
  rw [if_neg hs] at h ⊢
  obtain ⟨w0, ws, hsp⟩ : ∃ w0 ws, splitL 32 s = w0 :: ws := by
    cases h : splitL 32 s with
    | nil => exact absurd h (splitL_ne 32 s)
    | cons a l => exact ⟨a, l, rfl⟩
  rw [hsp] at h ⊢
  simp only [List.headD_cons, List.tail_cons] at h ⊢
  cases hk : kindK w0 with
  | none => rw [hk] at h; cases h
  | some k =>
    rw [hk] at h
    simp only at h ⊢
    have h0 := List.find?_some hk
    have h1 := of_decide_eq_true h0
    have : k = 0 ∨ k = 1 ∨ k = 2 ∨ k = 3 ∨ k = 4 := by omega
    rcases this with rfl | rfl | rfl | rfl | rfl
    · exact can1 hsp h1 h
    · exact can2 hsp h1 h
    · exact can3 hsp h1 h
    · exact can4 hsp h1 h
    · exact can5 hsp h1 h
theorem parse_bad {s : Str} (h : (parseS s).2.2 ≠ 0) : (parseS s).1 = cm0 0 := by
  have hf : ∀ n r, (finP n r).2.2 ≠ 0 → (finP n r).1 = cm0 0 := fun n r h => by
    unfold finP at h ⊢
    split
    · rfl
    · rename_i he; rw [if_neg he] at h; exact absurd rfl h
  unfold parseS at h ⊢
  split
  · rfl
  · rename_i hs
    rw [if_neg hs] at h
    split
    · rename_i k hk
      rw [hk] at h
      exact hf _ _ h
    · rfl
end Go.Proofs.YtcdcmohccbhchaaGreatDoor

namespace Go.Proofs.YtcdcmohccbhchaaGreatDoor
open Go.RowKit

section
variable (n st f a : Nat)
theorem target_none : (⟨st, f, [], a, 0⟩ : PS).targetP n = (⟨st, f, [], n, 4⟩, zId) := by unfold PS.targetP; rw [next_none, if_neg (by simp)]
theorem group_none : (⟨st, f, [], a, 0⟩ : PS).groupP n = (⟨st, f, [], n, 4⟩, []) := by unfold PS.groupP; rw [next_none, if_neg (by simp)]
theorem num_none (lo hi : Int) : (⟨st, f, [], a, 0⟩ : PS).numP n lo hi = (⟨st, f, [], n, 4⟩, 0) := by unfold PS.numP; rw [next_none, if_neg (by simp)]
theorem pub_none : (⟨st, f, [], a, 0⟩ : PS).pubP n = (⟨st, f, [], n, 4⟩, 0, zAut) := by unfold PS.pubP; rw [next_none, if_neg (by simp)]
theorem fin_short (R : List Str) (c : Cm) : finP n (⟨st, f, R, n, 4⟩, c) = (cm0 0, n, 4) := by
  have e : finS n ⟨st, f, R, n, 4⟩ = ⟨st, f, R, n, 4⟩ := by
    unfold finS; split
    · unfold PS.fail; rw [if_neg (by simp)]
    · rfl
  unfold finP; simp only [e]; rw [if_pos (by decide)]
theorem fin_long (R : List Str) (c : Cm) (h : f < n) : finP n (⟨st, f, R, a, 0⟩, c) = (cm0 0, f, 5) := by
  have e : finS n ⟨st, f, R, a, 0⟩ = ⟨st, f, R, f, 5⟩ := by
    unfold finS; rw [if_pos (by exact h)]; unfold PS.fail; rw [if_pos ⟨rfl, by decide⟩]
  unfold finP; simp only [e]; rw [if_pos (by decide)]
end
def moreT : Str := [109, 111, 114, 101]
/-- What is asked of the text of a command that is not a definition. -/
def Req (s : Str) : Prop := ∃ pre last : Str, s = pre ++ 32 :: last ∧ (32 : UInt8) ∉ last ∧ parseS pre = (cm0 0, pre.length, 4) ∧ parseS (s ++ 32 :: moreT) = (cm0 0, s.length, 5)
theorem nb_more : (32 : UInt8) ∉ moreT := by decide
theorem nb1 {a : Str} (ha : (32 : UInt8) ∉ a) : ∀ w ∈ [a], (32 : UInt8) ∉ w := fun w hw => by rw [List.mem_singleton.1 hw]; exact ha
theorem nb4 {a b c d : Str} (ha : (32 : UInt8) ∉ a) (hb : (32 : UInt8) ∉ b) (hc : (32 : UInt8) ∉ c) (hd : (32 : UInt8) ∉ d) : ∀ w ∈ [a, b, c, d], (32 : UInt8) ∉ w := fun w hw => by
  rcases List.mem_cons.1 hw with rfl | hw
  · exact ha
  · exact nb3 hb hc hd w hw
theorem join_more (l : List Str) (h : l ≠ []) : Lib.join l [32] ++ 32 :: moreT = Lib.join (l ++ [moreT]) [32] := by
  rw [join_app _ _ h (by simp), Lib.join_one]
theorem more_len : moreT.length = 4 := rfl
theorem req1 (t : Id) (h : t ≠ zId) : Req (Lib.join [bl (kindS 1), midT t] [32]) := by
  have hk := kind_len 1 (by decide) (by decide)
  have hm := midT_len t
  have nk := nb_kind 1 (by decide) (by decide)
  have hl : (Lib.join [bl (kindS 1), midT t] [32]).length = (bl (kindS 1)).length + 1 + (midT t).length := by rw [join_len2, join_len1]
  have hn : (Lib.join [bl (kindS 1), midT t, moreT] [32]).length = (bl (kindS 1)).length + 1 + (midT t).length + 1 + 4 := by rw [join_len2, join_len2, join_len1, more_len]; omega
  refine ⟨Lib.join [bl (kindS 1)] [32], midT t, join_app [bl (kindS 1)] [midT t] (by simp) (by simp) |>.trans (by rw [Lib.join_one, Lib.join_one]), nb_mid t, ?_, ?_⟩
  · rw [parse_words (nb1 nk) kind1 (by rw [join_len1]; omega)]
    rw [join_len1]
    show finP _ (read1 _ _) = _
    unfold read1
    rw [target_none]
    exact fin_short _ _ _ _ _
  · rw [join_more _ (by simp), hl]
    show parseS (Lib.join [bl (kindS 1), midT t, moreT] [32]) = _
    rw [parse_words (nb3 nk (nb_mid t) nb_more) kind1 (by omega), hn]
    show finP _ (read1 _ _) = _
    unfold read1
    rw [target_one _ _ _ _ _ _ (targetE_mid h).1]
    exact fin_long _ _ _ _ _ _ (by omega)
theorem req2 (t : Id) (g : ByteArray) (h : t ≠ zId) (hg : nameErr g = 0) : Req (Lib.join [bl (kindS 2), midT t, bl g] [32]) := by
  have hk := kind_len 2 (by decide) (by decide)
  have hm := midT_len t
  obtain ⟨g1, g2, g3⟩ := name_ok hg
  have gl := bl_length g
  have nk := nb_kind 2 (by decide) (by decide)
  have hl : (Lib.join [bl (kindS 2), midT t, bl g] [32]).length = (bl (kindS 2)).length + 1 + (midT t).length + 1 + (bl g).length := by rw [join_len2, join_len2, join_len1]; omega
  have hn : (Lib.join [bl (kindS 2), midT t, bl g, moreT] [32]).length = (bl (kindS 2)).length + 1 + (midT t).length + 1 + (bl g).length + 1 + 4 := by rw [join_len2, join_len2, join_len2, join_len1, more_len]; omega
  have hp : (Lib.join [bl (kindS 2), midT t] [32]).length = (bl (kindS 2)).length + 1 + (midT t).length := by rw [join_len2, join_len1]
  refine ⟨Lib.join [bl (kindS 2), midT t] [32], bl g, join_app [bl (kindS 2), midT t] [bl g] (by simp) (by simp) |>.trans (by rw [Lib.join_one]), nb_of g3, ?_, ?_⟩
  · rw [parse_words (nb2 nk (nb_mid t)) kind2 (by omega), hp]
    show finP _ (read2 _ _) = _
    unfold read2
    rw [target_one _ _ _ _ _ _ (targetE_mid h).1]
    simp only
    rw [group_none]
    exact fin_short _ _ _ _ _
  · rw [join_more _ (by simp), hl]
    show parseS (Lib.join [bl (kindS 2), midT t, bl g, moreT] [32]) = _
    rw [parse_words (nb4 nk (nb_mid t) (nb_of g3) nb_more) kind2 (by omega), hn]
    show finP _ (read2 _ _) = _
    unfold read2
    rw [target_one _ _ _ _ _ _ (targetE_mid h).1]
    simp only
    rw [group_one _ _ _ _ _ _ (groupE_bl hg)]
    exact fin_long _ _ _ _ _ _ (by omega)
theorem req4 (g : ByteArray) (n : Int) (hg : nameErr g = 0) (h0 : 0 ≤ n) (h1 : n ≤ 1000000) : Req (Lib.join [bl (kindS 4), bl g, bl (itoaS n)] [32]) := by
  rw [itoa_nat n h0]
  obtain ⟨i1, i2⟩ := nb_fldI n h0 h1
  have hk := kind_len 4 (by decide) (by decide)
  obtain ⟨g1, g2, g3⟩ := name_ok hg
  have gl := bl_length g
  have nk := nb_kind 4 (by decide) (by decide)
  have hnum := numE_dec (lo := 0) (hi := 1000000) (u := n.toNat) (by omega) (by omega) (by omega)
  generalize Lib.decDigits n.toNat = d at *
  have hl : (Lib.join [bl (kindS 4), bl g, d] [32]).length = (bl (kindS 4)).length + 1 + (bl g).length + 1 + d.length := by rw [join_len2, join_len2, join_len1]; omega
  have hn : (Lib.join [bl (kindS 4), bl g, d, moreT] [32]).length = (bl (kindS 4)).length + 1 + (bl g).length + 1 + d.length + 1 + 4 := by rw [join_len2, join_len2, join_len2, join_len1, more_len]; omega
  have hp : (Lib.join [bl (kindS 4), bl g] [32]).length = (bl (kindS 4)).length + 1 + (bl g).length := by rw [join_len2, join_len1]
  refine ⟨Lib.join [bl (kindS 4), bl g] [32], d, join_app [bl (kindS 4), bl g] [d] (by simp) (by simp) |>.trans (by rw [Lib.join_one]), i1, ?_, ?_⟩
  · rw [parse_words (nb2 nk (nb_of g3)) kind4 (by omega), hp]
    show finP _ (read4 _ _) = _
    unfold read4
    rw [group_one _ _ _ _ _ _ (groupE_bl hg)]
    simp only
    rw [num_none]
    exact fin_short _ _ _ _ _
  · rw [join_more _ (by simp), hl]
    show parseS (Lib.join [bl (kindS 4), bl g, d, moreT] [32]) = _
    rw [parse_words (nb4 nk (nb_of g3) i1 nb_more) kind4 (by omega), hn]
    show finP _ (read4 _ _) = _
    unfold read4
    rw [group_one _ _ _ _ _ _ (groupE_bl hg)]
    simp only
    rw [num_one _ _ _ _ _ _ _ _ hnum.1]
    exact fin_long _ _ _ _ _ _ (by omega)
theorem req5 (nu h : Int) (r : Aut) (n1 : 1 ≤ nu) (n2 : nu ≤ 1000) (h1 : 1 ≤ h) (h2 : h ≤ 8) : Req (Lib.join [bl (kindS 5), bl (itoaS nu), pubT h r] [32]) := by
  rw [itoa_nat nu (by omega)]
  obtain ⟨i1, i2⟩ := nb_fldI nu (by omega) (by omega)
  have hk := kind_len 5 (by decide) (by decide)
  have hpl := (fld_pub h r).2
  have npb := nb_pub h r
  have nk := nb_kind 5 (by decide) (by decide)
  obtain ⟨p1, _, _⟩ := pub_back h r h1 h2
  have hnum := numE_dec (lo := 1) (hi := 1000) (u := nu.toNat) (by omega) (by omega) (by omega)
  generalize Lib.decDigits nu.toNat = d at *
  generalize pubT h r = q at *
  have hl : (Lib.join [bl (kindS 5), d, q] [32]).length = (bl (kindS 5)).length + 1 + d.length + 1 + q.length := by rw [join_len2, join_len2, join_len1]; omega
  have hn : (Lib.join [bl (kindS 5), d, q, moreT] [32]).length = (bl (kindS 5)).length + 1 + d.length + 1 + q.length + 1 + 4 := by rw [join_len2, join_len2, join_len2, join_len1, more_len]; omega
  have hp : (Lib.join [bl (kindS 5), d] [32]).length = (bl (kindS 5)).length + 1 + d.length := by rw [join_len2, join_len1]
  refine ⟨Lib.join [bl (kindS 5), d] [32], q, join_app [bl (kindS 5), d] [q] (by simp) (by simp) |>.trans (by rw [Lib.join_one]), npb, ?_, ?_⟩
  · rw [parse_words (nb2 nk i1) kind5 (by omega), hp]
    show finP _ (read5 _ _) = _
    unfold read5
    rw [num_one _ _ _ _ _ _ _ _ hnum.1]
    simp only
    rw [pub_none]
    exact fin_short _ _ _ _ _
  · rw [join_more _ (by simp), hl]
    show parseS (Lib.join [bl (kindS 5), d, q, moreT] [32]) = _
    rw [parse_words (nb4 nk i1 npb nb_more) kind5 (by omega), hn]
    show finP _ (read5 _ _) = _
    unfold read5
    rw [num_one _ _ _ _ _ _ _ _ hnum.1]
    simp only
    rw [pub_one _ _ _ _ _ _ p1]
    exact fin_long _ _ _ _ _ _ (by omega)
theorem req_all {c : Cm} (h : cmErr c = 0) (h3 : c.kind ≠ 3) : Req (printS c) := by
  obtain ⟨k1, k5, hf⟩ := cm_good h
  obtain ⟨k, t, g, n, m, l, tx, nu, ht, r⟩ := c
  simp only at k1 k5 h3
  have : k = 1 ∨ k = 2 ∨ k = 4 ∨ k = 5 := by omega
  rcases this with rfl | rfl | rfl | rfl
  · rw [err1 _ _ _ _ _ _ _ _ _ hf] at h
    exact req1 t (fun e => by rw [if_pos e] at h; cases h)
  · have hg := good2 h
    rw [err2 _ _ _ _ _ _ _ _ _ hf] at h
    exact req2 t g (fun e => by rw [if_pos e] at h; cases h) hg
  · obtain ⟨hg, h0, h1⟩ := good4 h
    exact req4 g n hg h0 h1
  · obtain ⟨h0, h1, h2, h3⟩ := good5 h
    exact req5 nu ht r h0 h1 h2 h3
end Go.Proofs.YtcdcmohccbhchaaGreatDoor

namespace Go.Proofs.YtcdcmohccbhchaaGreatDoor
open Go.RowKit

theorem env_lt {w : World} (h : Env w) : 1 < w.heap.size := by obtain ⟨m, hm⟩ := h; exact World.block_lt_of_cell? w _ hm
/-- A command in a block. -/
def CmB (W : World) (k : Nat) (t : TypeId) (a : Cm) (v : Value) : Prop := W.heap[k]? = some (.cells (cmC a v).toArray t (0, 0))
theorem CmB.gr {W W' : World} {k : Nat} {t : TypeId} {a : Cm} {v : Value} (h : CmB W k t a v) (hg : Gr W W') : CmB W' k t a v :=
  (hg.block (Array.getElem?_eq_some_iff.1 h).1).trans h
theorem CmB.rows {W : World} {k : Nat} {t : TypeId} {a : Cm} {v : Value} (h : CmB W k t a v) : hasRow W ⟨k, 0, none⟩ 56 = true ∧ rowAt W ⟨k, 0, none⟩ 56 = cmC a v :=
  ⟨hasRow_block h 0 56 (by rw [cmC_length]; decide), (rowAt_block h 0 56 (by rw [cmC_length]; decide)).trans (cm_whole a v)⟩
end Go.Proofs.YtcdcmohccbhchaaGreatDoor

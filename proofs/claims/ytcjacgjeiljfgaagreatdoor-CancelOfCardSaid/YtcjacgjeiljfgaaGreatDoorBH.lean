/- Reading back what was printed (plain). Reading back what was printed (plain): kind by kind. Reading back what was printed (plain): a definition. Reading back what was printed: every good command. -/
import Derived.Test.YtcjacgjeiljfgaaGreatDoorBG
import Derived.Test.YtcjacgjeiljfgaaGreatDoorBB
import Derived.Test.YtcjacgjeiljfgaaGreatDoorBE
namespace Go.Proofs.YtcjacgjeiljfgaaGreatDoor
open Go.RowKit

section
variable (n st f a : Nat) (ws : List Str)
theorem next_one (w : Str) : (⟨st, f, w :: ws, a, 0⟩ : PS).next n = (⟨f + 1, f + 1 + w.length, ws, a, 0⟩, w, true) := by unfold PS.next; rw [if_neg (by simp)]
theorem next_none : (⟨st, f, [], a, 0⟩ : PS).next n = (⟨st, f, [], n, 4⟩, [], false) := by unfold PS.next; rw [if_neg (by simp)]
theorem target_one (w : Str) (h : targetE w = 0) : (⟨st, f, w :: ws, a, 0⟩ : PS).targetP n = (⟨f + 1, f + 1 + w.length, ws, a, 0⟩, midV w) := by
  unfold PS.targetP; rw [next_one, if_pos rfl]; simp only [h, fail_zero]
theorem group_one (w : Str) (h : groupE w = 0) : (⟨st, f, w :: ws, a, 0⟩ : PS).groupP n = (⟨f + 1, f + 1 + w.length, ws, a, 0⟩, w) := by
  unfold PS.groupP; rw [next_one, if_pos rfl]; simp only [h, fail_zero]
theorem num_one (lo hi : Int) (w : Str) (h : numE lo hi w = 0) : (⟨st, f, w :: ws, a, 0⟩ : PS).numP n lo hi = (⟨f + 1, f + 1 + w.length, ws, a, 0⟩, numV w) := by
  unfold PS.numP; rw [next_one, if_pos rfl]; simp only [h, fail_zero]
theorem pub_one (w : Str) (h : pubE w = 0) : (⟨st, f, w :: ws, a, 0⟩ : PS).pubP n = (⟨f + 1, f + 1 + w.length, ws, a, 0⟩, pubH w, pubR w) := by
  unfold PS.pubP; rw [next_one, if_pos rfl]; simp only [h, fail_zero]
theorem auts_one (w : Str) (h : autsE w = 0) : (⟨st, f, w :: ws, a, 0⟩ : PS).autsP n = (⟨f + 1, f + 1 + w.length, ws, a, 0⟩, true, autsV w) := by
  unfold PS.autsP; rw [next_one, if_pos rfl]; simp only [h, fail_zero]
theorem mode_open : (⟨st, f, openT :: ws, a, 0⟩ : PS).modeP n = (⟨f + 1, f + 1 + openT.length, ws, a, 0⟩, false, []) := by
  unfold PS.modeP; rw [next_one, if_pos (.inr rfl)]
theorem mode_mod (w : Str) (h : autsE w = 0) : (⟨st, f, modT :: w :: ws, a, 0⟩ : PS).modeP n = (⟨f + 1 + modT.length + 1, f + 1 + modT.length + 1 + w.length, ws, a, 0⟩, true, autsV w) := by
  unfold PS.modeP; rw [next_one, if_neg (by simp [openT, modT]), if_neg (by simp)]; exact auts_one n _ _ a ws w h
theorem fin_one (c : Cm) : finP n (⟨st, n, [], a, 0⟩, c) = (c, 0, 0) := by
  unfold finP finS; rw [if_neg (Nat.lt_irrefl n), if_neg (by simp)]
end
theorem numE_dec {lo hi : Int} {u : Nat} (hu : u < 10000000) (h1 : lo ≤ (u : Int)) (h2 : (u : Int) ≤ hi) : numE lo hi (Lib.decDigits u) = 0 ∧ numV (Lib.decDigits u) = (u : Int) := by
  have hb := numB_dec hu
  have hl := numL_dec u u (Nat.le_refl _)
  unfold numE numV
  rw [if_neg (by rw [hb]; decide), hl, if_neg (by omega), if_pos hb]
  exact ⟨rfl, rfl⟩
theorem targetE_mid {i : Id} (h : i ≠ zId) : targetE (midT i) = 0 ∧ midV (midT i) = i := by
  unfold targetE
  rw [if_neg (by rw [midB_midT]; decide), midV_midT, if_neg h]
  exact ⟨rfl, rfl⟩
theorem groupE_bl {g : ByteArray} (h : nameErr g = 0) : groupE (bl g) = 0 := by
  unfold groupE
  have e : bs (bl g) = g := rfl
  rw [e, if_neg (by simp [h])]
end Go.Proofs.YtcjacgjeiljfgaaGreatDoor

namespace Go.Proofs.YtcjacgjeiljfgaaGreatDoor
open Go.RowKit

theorem parse_words {w0 : Str} {ws : List Str} {k : Fin 5} (h : ∀ w ∈ w0 :: ws, (32 : UInt8) ∉ w) (hk : kindK w0 = some k) (hl : (Lib.join (w0 :: ws) [32]).length ≤ 1000) :
    parseS (Lib.join (w0 :: ws) [32]) = finP (Lib.join (w0 :: ws) [32]).length (readK k (Lib.join (w0 :: ws) [32]).length (Lib.join (w0 :: ws) [32]) ⟨0, w0.length, ws, 0, 0⟩) := by
  unfold parseS
  rw [if_neg (by omega), split_join 32 _ (by simp) h]
  simp only [List.headD_cons, List.tail_cons, hk]
theorem kind1 : kindK (bl (kindS 1)) = some 0 := by decide +kernel
theorem kind2 : kindK (bl (kindS 2)) = some 1 := by decide +kernel
theorem kind3 : kindK (bl (kindS 3)) = some 2 := by decide +kernel
theorem kind4 : kindK (bl (kindS 4)) = some 3 := by decide +kernel
theorem kind5 : kindK (bl (kindS 5)) = some 4 := by decide +kernel
theorem join_len1 (a : Str) : (Lib.join [a] [32]).length = a.length := by rw [Lib.join_one]
theorem join_len2 (a b : Str) (l : List Str) : (Lib.join (a :: b :: l) [32]).length = a.length + 1 + (Lib.join (b :: l) [32]).length := by rw [join_cons2]; simp; omega
theorem nb_of {w : Str} (h : ∀ c ∈ w, 33 ≤ c.toNat ∧ c.toNat ≤ 126) : (32 : UInt8) ∉ w := fun hm => by have := (h 32 hm).1; revert this; decide
theorem nb_mid (i : Id) : (32 : UInt8) ∉ midT i := by
  unfold midT
  intro hm
  rcases List.mem_cons.1 hm with h | h
  · revert h; decide
  · rcases List.mem_append.1 h with h | h
    · have := (mem_hex h).1; revert this; decide
    · revert h; decide
theorem nb_kind (k : Int) (h1 : 1 ≤ k) (h5 : k ≤ 5) : (32 : UInt8) ∉ bl (kindS k) := by
  have : k = 1 ∨ k = 2 ∨ k = 3 ∨ k = 4 ∨ k = 5 := by omega
  rcases this with rfl | rfl | rfl | rfl | rfl <;> decide +kernel
theorem nb2 {a b : Str} (ha : (32 : UInt8) ∉ a) (hb : (32 : UInt8) ∉ b) : ∀ w ∈ [a, b], (32 : UInt8) ∉ w := fun w hw => by
  rcases List.mem_cons.1 hw with rfl | hw
  · exact ha
  · rw [List.mem_singleton.1 hw]; exact hb
theorem nb3 {a b c : Str} (ha : (32 : UInt8) ∉ a) (hb : (32 : UInt8) ∉ b) (hc : (32 : UInt8) ∉ c) : ∀ w ∈ [a, b, c], (32 : UInt8) ∉ w := fun w hw => by
  rcases List.mem_cons.1 hw with rfl | hw
  · exact ha
  · exact nb2 hb hc w hw
theorem kind_len (k : Int) (h1 : 1 ≤ k) (h5 : k ≤ 5) : (bl (kindS k)).length ≤ 7 := (fld_kind k h1 h5).2
theorem rt1 (t : Id) (h : t ≠ zId) : parseS (Lib.join [bl (kindS 1), midT t] [32]) = ({ cm0 1 with target := t }, 0, 0) := by
  have hn : (Lib.join [bl (kindS 1), midT t] [32]).length = (bl (kindS 1)).length + 1 + (midT t).length := by rw [join_len2, join_len1]
  have hk := kind_len 1 (by decide) (by decide)
  have hm := midT_len t
  rw [parse_words (nb2 (nb_kind 1 (by decide) (by decide)) (nb_mid t)) kind1 (by omega), hn]
  show finP _ (read1 _ _) = _
  unfold read1
  rw [target_one _ _ _ _ _ _ (targetE_mid h).1, (targetE_mid h).2]
  exact fin_one _ _ _ _
theorem rt2 (t : Id) (g : ByteArray) (h : t ≠ zId) (hg : nameErr g = 0) : parseS (Lib.join [bl (kindS 2), midT t, bl g] [32]) = ({ cm0 2 with target := t, group := g }, 0, 0) := by
  have hn : (Lib.join [bl (kindS 2), midT t, bl g] [32]).length = (bl (kindS 2)).length + 1 + (midT t).length + 1 + (bl g).length := by rw [join_len2, join_len2, join_len1]; omega
  have hk := kind_len 2 (by decide) (by decide)
  have hm := midT_len t
  obtain ⟨g1, g2, g3⟩ := name_ok hg
  have gl := bl_length g
  rw [parse_words (nb3 (nb_kind 2 (by decide) (by decide)) (nb_mid t) (nb_of g3)) kind2 (by omega), hn]
  show finP _ (read2 _ _) = _
  unfold read2
  rw [target_one _ _ _ _ _ _ (targetE_mid h).1, (targetE_mid h).2]
  simp only
  rw [group_one _ _ _ _ _ _ (groupE_bl hg)]
  exact fin_one _ _ _ _
theorem nb_fldI (n : Int) (h : 0 ≤ n) (h2 : n ≤ 1000000) : (32 : UInt8) ∉ Lib.decDigits n.toNat ∧ (Lib.decDigits n.toNat).length ≤ 7 := by
  have hb : numB (Lib.decDigits n.toNat) = true := numB_dec (by omega)
  have hl := (fld_itoa n h h2).2
  rw [itoa_nat n h] at hl
  refine ⟨fun hm => ?_, hl⟩
  unfold numB at hb
  simp only [Bool.and_eq_true] at hb
  have hall : (Lib.decDigits n.toNat).all isD = true := by
    revert hb; intro hb
    first | exact hb.1.2 | exact hb.2.1 | exact hb.1.1.2 | exact hb.2 | exact hb.1
  have := List.all_eq_true.1 hall 32 hm
  revert this; decide
theorem rt4 (g : ByteArray) (n : Int) (hg : nameErr g = 0) (h0 : 0 ≤ n) (h1 : n ≤ 1000000) : parseS (Lib.join [bl (kindS 4), bl g, bl (itoaS n)] [32]) = ({ cm0 4 with group := g, version := n }, 0, 0) := by
  rw [itoa_nat n h0]
  obtain ⟨i1, i2⟩ := nb_fldI n h0 h1
  have hn : (Lib.join [bl (kindS 4), bl g, Lib.decDigits n.toNat] [32]).length = (bl (kindS 4)).length + 1 + (bl g).length + 1 + (Lib.decDigits n.toNat).length := by rw [join_len2, join_len2, join_len1]; omega
  have hk := kind_len 4 (by decide) (by decide)
  obtain ⟨g1, g2, g3⟩ := name_ok hg
  have gl := bl_length g
  rw [parse_words (nb3 (nb_kind 4 (by decide) (by decide)) (nb_of g3) i1) kind4 (by omega), hn]
  show finP _ (read4 _ _) = _
  have hnum := numE_dec (lo := 0) (hi := 1000000) (u := n.toNat) (by omega) (by omega) (by omega)
  unfold read4
  rw [group_one _ _ _ _ _ _ (groupE_bl hg)]
  simp only
  rw [num_one _ _ _ _ _ _ _ _ hnum.1, hnum.2]
  have e : (n.toNat : Int) = n := by omega
  rw [e]
  exact fin_one _ _ _ _
theorem nb_pub (h : Int) (r : Aut) : (32 : UInt8) ∉ pubT h r := by
  unfold pubT
  obtain ⟨t, p, e, ht, _, hp, hl⟩ := enc_shape (UInt8.ofNat h.toNat :: r.toList)
  rw [e]
  unfold padT
  intro hm
  rcases List.mem_append.1 hm with hc | hc
  · have := (b64_range 32 (List.all_eq_true.1 ht 32 hc)).1; revert this; decide
  · rw [List.mem_replicate] at hc; revert hc; simp
theorem vecOf_autR (r : Aut) : vecOf 16 r.toList = r := by
  apply Vector.toList_inj.1
  exact vecOf_toList (by simp)
theorem pub_back (h : Int) (r : Aut) (h1 : 1 ≤ h) (h2 : h ≤ 8) : pubE (pubT h r) = 0 ∧ pubH (pubT h r) = h ∧ pubR (pubT h r) = r := by
  obtain ⟨d1, d2⟩ := dec_enc (UInt8.ofNat h.toNat :: r.toList) (by simp)
  have hu : ((UInt8.ofNat h.toNat).toNat : Int) = h := by rw [UInt8.toNat_ofNat']; omega
  have he : pubE (pubT h r) = 0 := by
    unfold pubE pubT
    rw [d1, d2, if_neg (by simp), if_neg (by simp), if_neg (by simp), List.headD_cons, hu]
    unfold heightErr; rw [if_neg (by omega)]
  refine ⟨he, ?_, ?_⟩
  · unfold pubH; rw [if_pos he]; unfold pubT; rw [d2, List.headD_cons, hu]
  · unfold pubR; rw [if_pos he]; unfold pubT; rw [d2]; exact vecOf_autR r
theorem rt5 (nu h : Int) (r : Aut) (n1 : 1 ≤ nu) (n2 : nu ≤ 1000) (h1 : 1 ≤ h) (h2 : h ≤ 8) : parseS (Lib.join [bl (kindS 5), bl (itoaS nu), pubT h r] [32]) = ({ cm0 5 with number := nu, height := h, root := r }, 0, 0) := by
  rw [itoa_nat nu (by omega)]
  obtain ⟨i1, i2⟩ := nb_fldI nu (by omega) (by omega)
  have hn : (Lib.join [bl (kindS 5), Lib.decDigits nu.toNat, pubT h r] [32]).length = (bl (kindS 5)).length + 1 + (Lib.decDigits nu.toNat).length + 1 + (pubT h r).length := by rw [join_len2, join_len2, join_len1]; omega
  have hk := kind_len 5 (by decide) (by decide)
  have hpl := (fld_pub h r).2
  obtain ⟨p1, p2, p3⟩ := pub_back h r h1 h2
  rw [parse_words (nb3 (nb_kind 5 (by decide) (by decide)) i1 (nb_pub h r)) kind5 (by omega), hn]
  show finP _ (read5 _ _) = _
  have hnum := numE_dec (lo := 1) (hi := 1000) (u := nu.toNat) (by omega) (by omega) (by omega)
  unfold read5
  rw [num_one _ _ _ _ _ _ _ _ hnum.1, hnum.2]
  simp only
  rw [pub_one _ _ _ _ _ _ p1, p2, p3]
  have e : (nu.toNat : Int) = nu := by omega
  rw [e]
  exact fin_one _ _ _ _
end Go.Proofs.YtcjacgjeiljfgaaGreatDoor

namespace Go.Proofs.YtcjacgjeiljfgaaGreatDoor
open Go.RowKit

theorem join_app : ∀ (l m : List Str), l ≠ [] → m ≠ [] → Lib.join (l ++ m) [32] = Lib.join l [32] ++ 32 :: Lib.join m [32]
  | [], _, h, _ => absurd rfl h
  | [a], b :: m, _, _ => by rw [List.singleton_append, join_cons2, Lib.join_one, List.append_assoc]; rfl
  | [a], [], _, h => absurd rfl h
  | a :: b :: l, m, _, h => by
    have ih := join_app (b :: l) m (by simp) h
    rw [List.cons_append, List.cons_append, join_cons2, ← List.cons_append, ih, join_cons2, List.append_assoc, List.append_assoc, List.append_assoc]
theorem rest_one {s pre tx : Str} {st f a : Nat} {T : List Str} (hT : T ≠ []) (hs : s = pre ++ 32 :: tx) (hf : pre.length = f) (h0 : tx ≠ []) (he : textErr tx = 0) : (⟨st, f, T, a, 0⟩ : PS).restP s = (⟨f + 1, s.length, [], a, 0⟩, tx) := by
  have hd : s.drop (f + 1) = tx := by rw [hs, ← hf]; simp
  unfold PS.restP
  rw [if_neg (by rintro (h | h); exact h rfl; exact hT h)]
  simp only [hd]
  unfold restE
  rw [if_neg h0, he, fail_zero]
theorem rest_none {s : Str} {st f a : Nat} : (⟨st, f, [], a, 0⟩ : PS).restP s = (⟨st, f, [], a, 0⟩, []) := by
  unfold PS.restP; rw [if_pos (.inr rfl)]
def modW (m : Bool) (l : List Aut) : List Str := if m = true then [modT, Lib.join (l.map fun a => hexT a.toList) [44]] else [openT]
theorem auts_back {l : List Aut} (h : modsErr l = 0) : autsE (Lib.join (l.map fun a => hexT a.toList) [44]) = 0 ∧ autsV (Lib.join (l.map fun a => hexT a.toList) [44]) = l := by
  unfold modsErr at h
  by_cases h0 : l.length = 0
  · rw [if_pos h0] at h; cases h
  rw [if_neg h0] at h
  by_cases h8 : 8 < l.length
  · rw [if_pos h8] at h; cases h
  rw [if_neg h8] at h
  by_cases hi : incA l = false
  · rw [if_pos hi] at h; cases h
  have hsp : splitL 44 (Lib.join (l.map fun a => hexT a.toList) [44]) = l.map fun a => hexT a.toList := split_join 44 _ (fun e => h0 (by simpa using congrArg List.length e)) (fun w hw => by
    obtain ⟨a, _, rfl⟩ := List.mem_map.1 hw
    intro hm
    have := List.all_eq_true.1 (hexT_hex a.toList) 44 hm
    revert this; decide)
  have hv : autsV (Lib.join (l.map fun a => hexT a.toList) [44]) = l := by
    unfold autsV; rw [hsp, List.map_map]
    conv => rhs; rw [← List.map_id l]
    exact List.map_congr_left fun a _ => autOf_autT a
  refine ⟨?_, hv⟩
  unfold autsE
  rw [hv, hsp, if_neg, if_neg (by simpa using h8), if_neg hi]
  intro hany
  obtain ⟨w, hw, hb⟩ := List.any_eq_true.1 hany
  obtain ⟨a, _, rfl⟩ := List.mem_map.1 hw
  have := autErr_autT a
  unfold autT at this
  simp [this] at hb
theorem mode_read (n st f a : Nat) (T : List Str) (m : Bool) (l : List Aut) (h : (if m = false then (if 0 < l.length then (3 : Int) else 0) else modsErr l) = 0) : ∃ st', (⟨st, f, modW m l ++ T, a, 0⟩ : PS).modeP n = (⟨st', f + 1 + (Lib.join (modW m l) [32]).length, T, a, 0⟩, m, l) := by
  cases m with
  | false =>
    have hl : l = [] := by
      rw [if_pos rfl] at h
      by_cases h0 : 0 < l.length
      · rw [if_pos h0] at h; cases h
      · exact List.length_eq_zero_iff.1 (by omega)
    subst hl
    exact ⟨_, by rw [show modW false [] = [openT] from rfl, List.singleton_append, mode_open, Lib.join_one]⟩
  | true =>
    rw [if_neg (by simp)] at h
    obtain ⟨h1, h2⟩ := auts_back h
    refine ⟨f + 1 + modT.length + 1, ?_⟩
    rw [show modW true l = [modT, Lib.join (l.map fun a => hexT a.toList) [44]] from rfl, List.cons_append, List.singleton_append, mode_mod _ _ _ _ _ _ h1, h2, join_len2, join_len1]
    have e : f + 1 + modT.length + 1 + (Lib.join (l.map fun a => hexT a.toList) [44]).length = f + 1 + (modT.length + 1 + (Lib.join (l.map fun a => hexT a.toList) [44]).length) := by omega
    rw [e]
theorem nb_modW (m : Bool) (l : List Aut) : ∀ w ∈ modW m l, (32 : UInt8) ∉ w := by
  intro w hw
  cases m with
  | false => rw [show modW false l = [openT] from rfl, List.mem_singleton] at hw; subst hw; decide
  | true =>
    rw [show modW true l = [modT, Lib.join (l.map fun a => hexT a.toList) [44]] from rfl] at hw
    rcases List.mem_cons.1 hw with rfl | hw
    · decide
    · rw [List.mem_singleton.1 hw]
      have gen : ∀ L : List Aut, (32 : UInt8) ∉ Lib.join (L.map fun a => hexT a.toList) [44] := by
        intro L
        induction L with
        | nil => simp [Lib.join]
        | cons a L ih =>
          have ha : (32 : UInt8) ∉ hexT a.toList := fun h => by have := (mem_hex h).1; revert this; decide
          cases L with
          | nil => rw [List.map_cons, List.map_nil, Lib.join_one]; exact ha
          | cons b L =>
            rw [List.map_cons, List.map_cons, join_cons2]
            intro h
            rcases List.mem_append.1 h with h | h
            · rcases List.mem_append.1 h with h | h
              · exact ha h
              · revert h; decide
            · exact ih h
      exact gen l
theorem modW_ne (m : Bool) (l : List Aut) : modW m l ≠ [] := by cases m <;> simp [modW]
theorem rt3 (g : ByteArray) (v : Int) (m : Bool) (l : List Aut) (tx : ByteArray) (hg : nameErr g = 0) (h0 : 0 ≤ v) (h1 : v ≤ 1000000) (hm : (if m = false then (if 0 < l.length then (3 : Int) else 0) else modsErr l) = 0) (ht : textErr (bl tx) = 0) (T : List Str) (hT : T = if bl tx = [] then [] else splitL 32 (bl tx)) (hl : (Lib.join (bl (kindS 3) :: bl g :: bl (itoaS v) :: (modW m l ++ T)) [32]).length ≤ 1000) :
    parseS (Lib.join (bl (kindS 3) :: bl g :: bl (itoaS v) :: (modW m l ++ T)) [32]) = ({ cm0 3 with group := g, version := v, moderated := m, mods := l, text := tx }, 0, 0) := by
  rw [itoa_nat v h0] at hl ⊢
  obtain ⟨i1, i2⟩ := nb_fldI v h0 h1
  obtain ⟨g1, g2, g3⟩ := name_ok hg
  have hnb : ∀ w ∈ bl (kindS 3) :: bl g :: Lib.decDigits v.toNat :: (modW m l ++ T), (32 : UInt8) ∉ w := by
    intro w hw
    rcases List.mem_cons.1 hw with rfl | hw
    · exact nb_kind 3 (by decide) (by decide)
    rcases List.mem_cons.1 hw with rfl | hw
    · exact nb_of g3
    rcases List.mem_cons.1 hw with rfl | hw
    · exact i1
    rcases List.mem_append.1 hw with hw | hw
    · exact nb_modW m l w hw
    · rw [hT] at hw
      split at hw
      · cases hw
      · exact split_clean hw
  rw [parse_words hnb kind3 hl]
  have hnum := numE_dec (lo := 0) (hi := 1000000) (u := v.toNat) (by omega) (by omega) (by omega)
  have hv : (v.toNat : Int) = v := by omega
  have hmne := modW_ne m l
  have hpre : (Lib.join (bl (kindS 3) :: bl g :: Lib.decDigits v.toNat :: modW m l) [32]).length = 0 + (bl (kindS 3)).length + 1 + (bl g).length + 1 + (Lib.decDigits v.toNat).length + 1 + (Lib.join (modW m l) [32]).length := by
    have e : bl (kindS 3) :: bl g :: Lib.decDigits v.toNat :: modW m l = [bl (kindS 3), bl g, Lib.decDigits v.toNat] ++ modW m l := rfl
    rw [e, join_app _ _ (by simp) hmne, List.length_append, List.length_cons, join_len2, join_len2, join_len1]; omega
  generalize hS : Lib.join (bl (kindS 3) :: bl g :: Lib.decDigits v.toNat :: (modW m l ++ T)) [32] = S at *
  show finP _ (read3 _ _ _) = _
  unfold read3
  simp only
  rw [group_one _ _ _ _ _ _ (groupE_bl hg)]
  simp only
  rw [num_one _ _ _ _ _ _ _ _ hnum.1, hnum.2, hv]
  simp only
  obtain ⟨st', hmr⟩ := mode_read S.length ((bl (kindS 3)).length + 1 + (bl g).length + 1) ((bl (kindS 3)).length + 1 + (bl g).length + 1 + (Lib.decDigits v.toNat).length) 0 T m l hm
  rw [hmr]
  simp only
  by_cases htx : bl tx = []
  · rw [if_pos htx] at hT
    subst hT
    rw [rest_none]
    simp only
    rw [List.append_nil] at hS
    have hf : (bl (kindS 3)).length + 1 + (bl g).length + 1 + (Lib.decDigits v.toNat).length + 1 + (Lib.join (modW m l) [32]).length = S.length := by rw [← hS, hpre]; omega
    rw [hf, fin_one]
    have e : tx = bs [] := by rw [← htx]; rfl
    rw [e]; rfl
  · rw [if_neg htx] at hT
    have hTn : T ≠ [] := by rw [hT]; exact splitL_ne _ _
    have hs2 : S = Lib.join (bl (kindS 3) :: bl g :: Lib.decDigits v.toNat :: modW m l) [32] ++ 32 :: bl tx := by
      have e : bl (kindS 3) :: bl g :: Lib.decDigits v.toNat :: (modW m l ++ T) = (bl (kindS 3) :: bl g :: Lib.decDigits v.toNat :: modW m l) ++ T := rfl
      rw [← hS, e, join_app _ _ (by simp) hTn, hT, join_split]
    rw [rest_one hTn hs2 (by rw [hpre]; omega) htx ht]
    simp only
    rw [fin_one]
    rfl
end Go.Proofs.YtcjacgjeiljfgaaGreatDoor

namespace Go.Proofs.YtcjacgjeiljfgaaGreatDoor
open Go.RowKit

theorem strip_of {c : Cm} (h : foreign c = false) : strip c = cm0 c.kind := by
  unfold foreign at h; simpa using h
theorem bl_modeS (c : Cm) : bl (modeS c) = Lib.join (modW c.moderated c.mods) [32] := by
  unfold modeS modW
  split
  · rw [bl_bs, join2, List.append_assoc]; rfl
  · rw [bl_bs, Lib.join_one]
theorem join_in (x M y : List Str) (hx : x ≠ []) (hM : M ≠ []) : Lib.join (x ++ ([Lib.join M [32]] ++ y)) [32] = Lib.join (x ++ (M ++ y)) [32] := by
  cases y with
  | nil => rw [List.append_nil, List.append_nil, join_app _ _ hx (by simp), join_app _ _ hx hM, Lib.join_one]
  | cons a y =>
    rw [join_app _ _ hx (by simp), join_app _ _ hx (by simp), join_app _ _ (by simp) (by simp), join_app M _ hM (by simp), Lib.join_one]
theorem rt_all {c : Cm} (h : cmErr c = 0) : parseS (printS c) = (c, 0, 0) := by
  have hlen := (print_fld h).2
  obtain ⟨k1, k5, hf⟩ := cm_good h
  have hs := strip_of hf
  obtain ⟨k, t, g, n, m, l, tx, nu, ht, r⟩ := c
  simp only at k1 k5
  have : k = 1 ∨ k = 2 ∨ k = 4 ∨ k = 5 ∨ k = 3 := by omega
  rcases this with rfl | rfl | rfl | rfl | rfl
  · rw [err1 _ _ _ _ _ _ _ _ _ hf] at h
    have h1 : t ≠ zId := fun e => by rw [if_pos e] at h; cases h
    simp only [strip, cm0, if_true, Cm.mk.injEq] at hs
    obtain ⟨-, -, rfl, rfl, rfl, rfl, rfl, rfl, rfl, rfl⟩ := hs
    exact rt1 t h1
  · have hg := good2 h
    rw [err2 _ _ _ _ _ _ _ _ _ hf] at h
    have h1 : t ≠ zId := fun e => by rw [if_pos e] at h; cases h
    simp only [strip, cm0] at hs
    obtain ⟨-, -, -, rfl, rfl, rfl, rfl, rfl, rfl, rfl⟩ := hs
    exact rt2 t g h1 hg
  · obtain ⟨hg, h0, h1⟩ := good4 h
    simp only [strip, cm0] at hs
    obtain ⟨-, rfl, -, -, rfl, rfl, rfl, rfl, rfl, rfl⟩ := hs
    exact rt4 g n hg h0 h1
  · obtain ⟨h0, h1, h2, h3⟩ := good5 h
    simp only [strip, cm0] at hs
    obtain ⟨-, rfl, rfl, rfl, rfl, rfl, rfl, -, -, -⟩ := hs
    exact rt5 nu ht r h0 h1 h2 h3
  · obtain ⟨hg, h0, h1, hm, htx⟩ := good3 h
    simp only [strip, cm0] at hs
    obtain ⟨-, rfl, -, -, -, -, -, rfl, rfl, rfl⟩ := hs
    have hp : printS ⟨3, zId, g, n, m, l, tx, 0, 0, zAut⟩ = Lib.join (bl (kindS 3) :: bl g :: bl (itoaS n) :: (modW m l ++ (if bl tx = [] then [] else splitL 32 (bl tx)))) [32] := by
      have e1 : printS ⟨3, zId, g, n, m, l, tx, 0, 0, zAut⟩ = Lib.join ([bl (kindS 3), bl g, bl (itoaS n)] ++ ([Lib.join (modW m l) [32]] ++ (if bl tx = [] then [] else [bl tx]))) [32] := by
        unfold printS wordsP
        rw [if_neg (show ¬ (3 : Int) = 1 by decide), if_neg (show ¬ (3 : Int) = 2 by decide), if_pos rfl]
        have hb : (tx = ⟨#[]⟩) ↔ bl tx = [] := ⟨fun e => by rw [e]; rfl, fun e => by rw [← bs_bl tx, e]; rfl⟩
        rw [← bl_modeS ⟨3, zId, g, n, m, l, tx, 0, 0, zAut⟩]
        by_cases ht : bl tx = []
        · rw [if_pos ht, if_pos (hb.2 ht)]; rfl
        · rw [if_neg ht, if_neg (fun e => ht (hb.1 e))]; rfl
      rw [e1, join_in _ _ _ (by simp) (modW_ne m l)]
      by_cases ht : bl tx = []
      · rw [if_pos ht, if_pos ht]; rfl
      · rw [if_neg ht, if_neg ht, ← List.append_assoc, join_app _ _ (by simp) (by simp), Lib.join_one]
        have e2 : bl (kindS 3) :: bl g :: bl (itoaS n) :: (modW m l ++ splitL 32 (bl tx)) = ([bl (kindS 3), bl g, bl (itoaS n)] ++ modW m l) ++ splitL 32 (bl tx) := rfl
        rw [e2, join_app _ _ (by simp) (splitL_ne _ _), join_split]
    rw [hp] at hlen ⊢
    exact rt3 g n m l tx hg h0 h1 hm htx _ rfl (by omega)
end Go.Proofs.YtcjacgjeiljfgaaGreatDoor

/- The walk of the law Utf8Repair: it returns true, and nothing that was there turns. -/
import Derived.Test.YtalommgkigacpaaDoorRefRep
namespace Go.Proofs.YtalommgkigacpaaDoor
open Go.RowKit

theorem errOf_enc (r : Int) (h : scal r) (rest : List UInt8) : errOf (encL r ++ rest) = errOf rest := by
  have hd := dec_enc r h rest
  rw [errOf_good _ hd.1, hd.2.2, List.drop_left]
theorem enc_65533 : encL 65533 = [239, 191, 189] := by decide +kernel
theorem rep_valid : ∀ (n : Nat) (l : List UInt8), l.length ≤ n → errOf (rep l) = 0
  | 0, l, h => by have : l = [] := List.length_eq_zero_iff.1 (by omega); rw [this]; rfl
  | n + 1, l, h => by
    by_cases c : l = []
    · rw [c]; rfl
    by_cases d : decE l = 0
    · have he := enc_dec l d
      have hp := decN_pos l d
      rw [rep_good l d, ← he.1, errOf_enc _ he.2]
      exact rep_valid n _ (by rw [List.length_drop]; omega)
    · have hb := bad_meas l c d
      rw [rep_bad l c hb, ← enc_65533, errOf_enc _ (by decide)]
      exact rep_valid n _ (by rw [List.length_drop]; omega)
theorem rep_id (l : List UInt8) : errOf l = 0 → rep l = l := by
  refine scan_ind (P := fun l => errOf l = 0 → rep l = l) ?_ ?_ ?_ l
  · intro _; rfl
  · intro l hl h he; rw [errOf_bad l hl h] at he; exact absurd he h
  · intro l h ih he
    rw [errOf_good l h] at he
    rw [rep_good l h, ih he, List.take_append_drop]
theorem rep_len : ∀ (n : Nat) (l : List UInt8), l.length ≤ n → (rep l).length ≤ 3 * l.length
  | 0, l, h => by have : l = [] := List.length_eq_zero_iff.1 (by omega); rw [this]; simp [rep_nil]
  | n + 1, l, h => by
    by_cases c : l = []
    · rw [c]; simp [rep_nil]
    have hpos : 1 ≤ l.length := by rcases l with _ | ⟨a, t⟩ <;> simp_all
    by_cases d : decE l = 0
    · have hp := decN_pos l d
      have hle := decN_le l
      have := rep_len n (l.drop (decN l)) (by rw [List.length_drop]; omega)
      rw [List.length_drop] at this
      rw [rep_good l d, List.length_append, List.length_take]
      omega
    · have hb := bad_meas l c d
      have hle := measN_le l
      have := rep_len n (l.drop (max (measN l) 1)) (by rw [List.length_drop]; omega)
      rw [List.length_drop] at this
      rw [rep_bad l c hb, List.length_append]
      simp only [List.length_cons, List.length_nil]
      omega

set_option maxHeartbeats 1000000 in
set_option maxRecDepth 100000 in
theorem utf8Repair_walk (s : ByteArray) (w : World) (hT : Tab w) (hs : s.size ≤ 140737488351232) :
    Calls Tryd.prog 6 #[.string s] w fun e w' => e = .returned (.bool true) ∧ Gr w w' := by
  have T0 := Lib.hid hT
  have hz : (shortB s 300).size ≤ 300 := by rw [shortB_size]; omega
  clear hT
  have key : ∀ t : ByteArray, t.size ≤ 300 → (⟨(rep (bl t)).toArray⟩ : ByteArray).size ≤ 900 ∧ (errOf (bl ⟨(rep (bl t)).toArray⟩) == 0) = true ∧ (⟨(rep (bl ⟨(rep (bl t)).toArray⟩)).toArray⟩ : ByteArray) = ⟨(rep (bl t)).toArray⟩ ∧ ((errOf (bl t) == 0) = true → (⟨(rep (bl t)).toArray⟩ : ByteArray) = t) := by
    intro t ht
    have h1 := rep_valid _ (bl t) (Nat.le_refl _)
    refine ⟨?_, ?_, ?_, ?_⟩
    · rw [← bl_length, bl_mk]; have := rep_len _ (bl t) (Nat.le_refl _); rw [bl_length] at this; omega
    · rw [bl_mk, h1]; rfl
    · rw [bl_mk, rep_id _ h1]
    · intro h; apply bl_inj; rw [bl_mk]; exact rep_id _ (by simpa using h)
  have K := Lib.hid (key _ hz)
  clear key
  go_enter Tryd.func6, Tryd.ntmps6
  go_wp2_with fail
  refine (short_any s 300 _ hs (by decide)).mono ?_
  rintro e w' ⟨rfl, rfl⟩
  generalize shortB s 300 = t at *
  go_wp2_with fail
  refine (repair_any t _ T0.out (by omega)).mono ?_
  rintro e w1 ⟨rfl, hg1⟩
  have T1 := Lib.hid (T0.out.gr hg1)
  have hrr := refRep_any t
  have HRR := Lib.hid hrr
  clear hrr
  generalize (⟨(rep (bl t)).toArray⟩ : ByteArray) = R at *
  obtain ⟨k1, k2, k3, k4⟩ := K.out
  have K2 := Lib.hid k2; have K3 := Lib.hid k3; have K4 := Lib.hid k4
  clear K k2 k3 k4
  go_wp2_with fail
  refine (known_any _ T1.out).mono ?_
  rintro e w2 ⟨rfl, hg2⟩
  have T2 := Lib.hid (T1.out.gr hg2)
  go_wp2_with fail
  refine (HRR.out _ (by omega)).mono ?_
  rintro e w3 ⟨rfl, hg3⟩
  have T3 := Lib.hid (T2.out.gr hg3)
  clear HRR
  go_wp2_with fail
  refine (valid_any R _ (by omega)).mono ?_
  rintro e w4 ⟨rfl, hg4⟩
  rw [K2.out]
  have T4 := Lib.hid (T3.out.gr hg4)
  go_wp2_with fail
  refine (repair_any R _ T4.out (by omega)).mono ?_
  rintro e w5 ⟨rfl, hg5⟩
  rw [K3.out]
  go_wp2_with fail
  refine (valid_any t _ (by omega)).mono ?_
  rintro e w6 ⟨rfl, hg6⟩
  have hG := ((((hg1.trans hg2).trans hg3).trans hg4).trans hg5).trans hg6
  cases hb : (errOf (bl t) == 0) with
  | false =>
    clear hb
    go_wp2_with fail
    go_ret
    exact ⟨rfl, hG⟩
  | true =>
    have := K4.out hb
    subst this
    clear hb
    go_wp2_with fail
    go_ret
    exact ⟨rfl, hG⟩
end Go.Proofs.YtalommgkigacpaaDoor

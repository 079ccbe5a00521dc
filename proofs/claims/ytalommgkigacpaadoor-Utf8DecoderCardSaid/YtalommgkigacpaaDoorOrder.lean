/- Plain lists of bytes: the order of two valid strings' bytes is that of their code points; concatenation. No program in sight. -/
import Derived.Test.YtalommgkigacpaaDoorPlain3
namespace Go.Proofs.YtalommgkigacpaaDoor

/-- The order of lists of bytes, as Go has it. -/
def lessL : List UInt8 → List UInt8 → Bool
  | [], [] => false
  | [], _ :: _ => true
  | _ :: _, [] => false
  | a :: s, b :: t => if a < b then true else if b < a then false else lessL s t
/-- The order of lists of code points. -/
def lessZ : List Int → List Int → Bool
  | [], [] => false
  | [], _ :: _ => true
  | _ :: _, [] => false
  | a :: s, b :: t => if a < b then true else if b < a then false else lessZ s t

theorem lt_bz (a b : UInt8) : a < b ↔ bz a < bz b := by
  unfold bz; rw [UInt8.lt_iff_toNat_lt]; omega
theorem lessL_cons (a b : UInt8) (s t : List UInt8) : lessL (a :: s) (b :: t) = if bz a < bz b then true else if bz b < bz a then false else lessL s t := by
  simp only [lessL, lt_bz]
theorem lessL_same : ∀ (p s t : List UInt8), lessL (p ++ s) (p ++ t) = lessL s t
  | [], _, _ => rfl
  | a :: p, s, t => by
    rw [List.cons_append, List.cons_append, lessL_cons, if_neg (by omega), if_neg (by omega)]; exact lessL_same p s t

/-- The encodings' bytes in their order: a smaller code point's come first, whatever follows. -/
theorem enc_less (r q : Int) (hr : scal r) (hq : scal q) (h : r < q) (x y : List UInt8) : lessL (encL r ++ x) (encL q ++ y) = true ∧ lessL (encL q ++ y) (encL r ++ x) = false := by
  unfold scal at hr hq
  have two : ∀ (a b : UInt8) (s t : List UInt8), bz a < bz b → lessL (a :: s) (b :: t) = true ∧ lessL (b :: t) (a :: s) = false := by
    intro a b s t hab
    rw [lessL_cons, lessL_cons]
    exact ⟨by rw [if_pos hab], by rw [if_neg (by omega), if_pos hab]⟩
  have eqs : ∀ (a b : UInt8) (s t : List UInt8), bz a = bz b → lessL (a :: s) (b :: t) = lessL s t ∧ lessL (b :: t) (a :: s) = lessL t s := by
    intro a b s t hab
    rw [lessL_cons, lessL_cons]
    exact ⟨by rw [if_neg (by omega), if_neg (by omega)], by rw [if_neg (by omega), if_neg (by omega)]⟩
  by_cases r1 : r ≤ 127
  · have er : encL r = [toB r] := by unfold encL; rw [encZ_1 r r1]; rfl
    have br := bz_toB r (by omega) (by omega)
    rw [er, List.singleton_append]
    by_cases q1 : q ≤ 127
    · rw [show encL q = [toB q] by unfold encL; rw [encZ_1 q q1]; rfl, List.singleton_append]
      exact two _ _ _ _ (by rw [br, bz_toB q (by omega) (by omega)]; omega)
    by_cases q2 : q ≤ 2047
    · rw [show encL q = [toB (192 + q / 64), toB (128 + q % 64)] by unfold encL; rw [encZ_2 q (by omega) q2]; rfl]
      exact two _ _ _ _ (by rw [br, bz_toB _ (by omega) (by omega)]; omega)
    by_cases q3 : q ≤ 65535
    · rw [show encL q = [toB (224 + q / 4096), toB (128 + q / 64 % 64), toB (128 + q % 64)] by unfold encL; rw [encZ_3 q (by omega) q3]; rfl]
      exact two _ _ _ _ (by rw [br, bz_toB _ (by omega) (by omega)]; omega)
    · rw [show encL q = [toB (240 + q / 262144), toB (128 + q / 4096 % 64), toB (128 + q / 64 % 64), toB (128 + q % 64)] by unfold encL; rw [encZ_4 q (by omega)]; rfl]
      exact two _ _ _ _ (by rw [br, bz_toB _ (by omega) (by omega)]; omega)
  by_cases r2 : r ≤ 2047
  · have er : encL r = [toB (192 + r / 64), toB (128 + r % 64)] := by unfold encL; rw [encZ_2 r (by omega) r2]; rfl
    have b1 := bz_toB (192 + r / 64) (by omega) (by omega)
    have b2 := bz_toB (128 + r % 64) (by omega) (by omega)
    rw [er]
    by_cases q2 : q ≤ 2047
    · rw [show encL q = [toB (192 + q / 64), toB (128 + q % 64)] by unfold encL; rw [encZ_2 q (by omega) q2]; rfl]
      have c1 := bz_toB (192 + q / 64) (by omega) (by omega)
      have c2 := bz_toB (128 + q % 64) (by omega) (by omega)
      by_cases e1 : r / 64 = q / 64
      · have := eqs _ _ ([toB (128 + r % 64)] ++ x) ([toB (128 + q % 64)] ++ y) (show bz (toB (192 + r / 64)) = bz (toB (192 + q / 64)) by rw [b1, c1]; omega)
        show lessL (_ :: ([toB (128 + r % 64)] ++ x)) (_ :: ([toB (128 + q % 64)] ++ y)) = true ∧ lessL (_ :: ([toB (128 + q % 64)] ++ y)) (_ :: ([toB (128 + r % 64)] ++ x)) = false
        rw [this.1, this.2]
        exact two _ _ _ _ (by rw [b2, c2]; omega)
      · exact two _ _ _ _ (by rw [b1, c1]; omega)
    by_cases q3 : q ≤ 65535
    · rw [show encL q = [toB (224 + q / 4096), toB (128 + q / 64 % 64), toB (128 + q % 64)] by unfold encL; rw [encZ_3 q (by omega) q3]; rfl]
      exact two _ _ _ _ (by rw [b1, bz_toB _ (by omega) (by omega)]; omega)
    · rw [show encL q = [toB (240 + q / 262144), toB (128 + q / 4096 % 64), toB (128 + q / 64 % 64), toB (128 + q % 64)] by unfold encL; rw [encZ_4 q (by omega)]; rfl]
      exact two _ _ _ _ (by rw [b1, bz_toB _ (by omega) (by omega)]; omega)
  by_cases r3 : r ≤ 65535
  · have er : encL r = [toB (224 + r / 4096), toB (128 + r / 64 % 64), toB (128 + r % 64)] := by unfold encL; rw [encZ_3 r (by omega) r3]; rfl
    have b1 := bz_toB (224 + r / 4096) (by omega) (by omega)
    have b2 := bz_toB (128 + r / 64 % 64) (by omega) (by omega)
    have b3 := bz_toB (128 + r % 64) (by omega) (by omega)
    rw [er]
    by_cases q3 : q ≤ 65535
    · rw [show encL q = [toB (224 + q / 4096), toB (128 + q / 64 % 64), toB (128 + q % 64)] by unfold encL; rw [encZ_3 q (by omega) q3]; rfl]
      have c1 := bz_toB (224 + q / 4096) (by omega) (by omega)
      have c2 := bz_toB (128 + q / 64 % 64) (by omega) (by omega)
      have c3 := bz_toB (128 + q % 64) (by omega) (by omega)
      generalize toB (224 + r / 4096) = R1 at *
      generalize toB (128 + r / 64 % 64) = R2 at *
      generalize toB (128 + r % 64) = R3 at *
      generalize toB (224 + q / 4096) = Q1 at *
      generalize toB (128 + q / 64 % 64) = Q2 at *
      generalize toB (128 + q % 64) = Q3 at *
      show lessL (R1 :: R2 :: R3 :: x) (Q1 :: Q2 :: Q3 :: y) = true ∧ lessL (Q1 :: Q2 :: Q3 :: y) (R1 :: R2 :: R3 :: x) = false
      by_cases e1 : r / 4096 = q / 4096
      · have k := eqs R1 Q1 (R2 :: R3 :: x) (Q2 :: Q3 :: y) (by rw [b1, c1]; omega)
        rw [k.1, k.2]
        by_cases e2 : r / 64 % 64 = q / 64 % 64
        · have k := eqs R2 Q2 (R3 :: x) (Q3 :: y) (by rw [b2, c2]; omega)
          rw [k.1, k.2]
          exact two _ _ _ _ (by rw [b3, c3]; omega)
        · exact two _ _ _ _ (by rw [b2, c2]; omega)
      · exact two _ _ _ _ (by rw [b1, c1]; omega)
    · rw [show encL q = [toB (240 + q / 262144), toB (128 + q / 4096 % 64), toB (128 + q / 64 % 64), toB (128 + q % 64)] by unfold encL; rw [encZ_4 q (by omega)]; rfl]
      exact two _ _ _ _ (by rw [b1, bz_toB _ (by omega) (by omega)]; omega)
  · have er : encL r = [toB (240 + r / 262144), toB (128 + r / 4096 % 64), toB (128 + r / 64 % 64), toB (128 + r % 64)] := by unfold encL; rw [encZ_4 r (by omega)]; rfl
    have b1 := bz_toB (240 + r / 262144) (by omega) (by omega)
    have b2 := bz_toB (128 + r / 4096 % 64) (by omega) (by omega)
    have b3 := bz_toB (128 + r / 64 % 64) (by omega) (by omega)
    have b4 := bz_toB (128 + r % 64) (by omega) (by omega)
    rw [er, show encL q = [toB (240 + q / 262144), toB (128 + q / 4096 % 64), toB (128 + q / 64 % 64), toB (128 + q % 64)] by unfold encL; rw [encZ_4 q (by omega)]; rfl]
    have c1 := bz_toB (240 + q / 262144) (by omega) (by omega)
    have c2 := bz_toB (128 + q / 4096 % 64) (by omega) (by omega)
    have c3 := bz_toB (128 + q / 64 % 64) (by omega) (by omega)
    have c4 := bz_toB (128 + q % 64) (by omega) (by omega)
    generalize toB (240 + r / 262144) = R1 at *
    generalize toB (128 + r / 4096 % 64) = R2 at *
    generalize toB (128 + r / 64 % 64) = R3 at *
    generalize toB (128 + r % 64) = R4 at *
    generalize toB (240 + q / 262144) = Q1 at *
    generalize toB (128 + q / 4096 % 64) = Q2 at *
    generalize toB (128 + q / 64 % 64) = Q3 at *
    generalize toB (128 + q % 64) = Q4 at *
    show lessL (R1 :: R2 :: R3 :: R4 :: x) (Q1 :: Q2 :: Q3 :: Q4 :: y) = true ∧ lessL (Q1 :: Q2 :: Q3 :: Q4 :: y) (R1 :: R2 :: R3 :: R4 :: x) = false
    by_cases e1 : r / 262144 = q / 262144
    · have k := eqs R1 Q1 (R2 :: R3 :: R4 :: x) (Q2 :: Q3 :: Q4 :: y) (by rw [b1, c1]; omega)
      rw [k.1, k.2]
      by_cases e2 : r / 4096 % 64 = q / 4096 % 64
      · have k := eqs R2 Q2 (R3 :: R4 :: x) (Q3 :: Q4 :: y) (by rw [b2, c2]; omega)
        rw [k.1, k.2]
        by_cases e3 : r / 64 % 64 = q / 64 % 64
        · have k := eqs R3 Q3 (R4 :: x) (Q4 :: y) (by rw [b3, c3]; omega)
          rw [k.1, k.2]
          exact two _ _ _ _ (by rw [b4, c4]; omega)
        · exact two _ _ _ _ (by rw [b3, c3]; omega)
      · exact two _ _ _ _ (by rw [b2, c2]; omega)
    · exact two _ _ _ _ (by rw [b1, c1]; omega)

theorem encL_ne (r : Int) : encL r ≠ [] := by
  unfold encL encZ; repeat' split
  all_goals simp
/-- A valid string begins with an encoding. -/
theorem valid_cons (l : List UInt8) (hl : l ≠ []) (h : errOf l = 0) : decE l = 0 ∧ l = encL (decR l) ++ l.drop (decN l) ∧ scal (decR l) ∧ errOf (l.drop (decN l)) = 0 := by
  have hd : decE l = 0 := by
    by_cases c : decE l = 0
    · exact c
    · rw [errOf_bad l hl c] at h; exact absurd h c
  have he := enc_dec l hd
  refine ⟨hd, ?_, he.2, by rw [errOf_good l hd] at h; exact h⟩
  rw [he.1, List.take_append_drop]

theorem order (l : List UInt8) : ∀ m, errOf l = 0 → errOf m = 0 → lessL l m = lessZ (runOf l) (runOf m) := by
  refine scan_ind (P := fun l => ∀ m, errOf l = 0 → errOf m = 0 → lessL l m = lessZ (runOf l) (runOf m)) ?_ ?_ ?_ l
  · intro m _ hm
    rcases m with _ | ⟨b, m⟩
    · rfl
    · obtain ⟨hd, _⟩ := valid_cons (b :: m) (by simp) hm
      rw [runOf_nil, runOf_good _ hd]; rfl
  · intro l hl h m hz; rw [errOf_bad l hl h] at hz; exact absurd hz h
  · intro l h ih m hl hm
    have hne := (decE_zero l h).2
    obtain ⟨_, el, sl, vl⟩ := valid_cons l hne hl
    rw [runOf_good l h]
    rcases hmc : m with _ | ⟨b, m'⟩
    · rcases l with _ | ⟨a, l'⟩
      · exact absurd rfl hne
      · rfl
    · have hm0 : m ≠ [] := by rw [hmc]; simp
      obtain ⟨dm, em, sm, vm⟩ := valid_cons m hm0 hm
      rw [← hmc, runOf_good m dm]
      show lessL l m = if decR l < decR m then true else if decR m < decR l then false else lessZ (runOf (l.drop (decN l))) (runOf (m.drop (decN m)))
      by_cases c1 : decR l < decR m
      · rw [if_pos c1]
        have := (enc_less _ _ sl sm c1 (l.drop (decN l)) (m.drop (decN m))).1
        rw [← el, ← em] at this; exact this
      · rw [if_neg c1]
        by_cases c2 : decR m < decR l
        · rw [if_pos c2]
          have := (enc_less _ _ sm sl c2 (m.drop (decN m)) (l.drop (decN l))).2
          rw [← el, ← em] at this; exact this
        · rw [if_neg c2, ← ih _ vl vm]
          have e : decR l = decR m := by omega
          have key : lessL (encL (decR l) ++ l.drop (decN l)) (encL (decR m) ++ m.drop (decN m)) = lessL (l.drop (decN l)) (m.drop (decN m)) := by
            rw [e]; exact lessL_same _ _ _
          rw [← el, ← em] at key
          exact key

/-- Concatenation of valid strings. -/
theorem err_append (l : List UInt8) : ∀ m, errOf l = 0 → errOf (l ++ m) = errOf m := by
  refine scan_ind (P := fun l => ∀ m, errOf l = 0 → errOf (l ++ m) = errOf m) ?_ ?_ ?_ l
  · intro m _; rfl
  · intro l hl h m hz; rw [errOf_bad l hl h] at hz; exact absurd hz h
  · intro l h ih m hl
    have hne := (decE_zero l h).2
    obtain ⟨_, el, sl, vl⟩ := valid_cons l hne hl
    have hd := dec_enc (decR l) sl (l.drop (decN l) ++ m)
    have e2 : l ++ m = encL (decR l) ++ (l.drop (decN l) ++ m) := by rw [← List.append_assoc, ← el]
    rw [e2, errOf_good _ hd.1, hd.2.2, List.drop_left]
    exact ih m vl
theorem run_append (l : List UInt8) : ∀ m, errOf l = 0 → runOf (l ++ m) = runOf l ++ runOf m := by
  refine scan_ind (P := fun l => ∀ m, errOf l = 0 → runOf (l ++ m) = runOf l ++ runOf m) ?_ ?_ ?_ l
  · intro m _; rfl
  · intro l hl h m hz; rw [errOf_bad l hl h] at hz; exact absurd hz h
  · intro l h ih m hl
    have hne := (decE_zero l h).2
    obtain ⟨_, el, sl, vl⟩ := valid_cons l hne hl
    have hd := dec_enc (decR l) sl (l.drop (decN l) ++ m)
    have e2 : l ++ m = encL (decR l) ++ (l.drop (decN l) ++ m) := by rw [← List.append_assoc, ← el]
    rw [e2, runOf_good _ hd.1, hd.2.2, List.drop_left, hd.2.1, runOf_good l h, ih m vl]; rfl
end Go.Proofs.YtalommgkigacpaaDoor

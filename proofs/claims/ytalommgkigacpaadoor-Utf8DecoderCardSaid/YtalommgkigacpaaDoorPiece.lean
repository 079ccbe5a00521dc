/- Plain lists of bytes: beginnings of valid strings; what stands ahead of the first error is valid. And '[]byte(s)', read back. -/
import Derived.Test.YtalommgkigacpaaDoorDcdr
import Derived.Laws.IdiomStrings
namespace Go.Proofs.YtalommgkigacpaaDoor
open Go.RowKit

theorem decE_proper (l : List UInt8) (h : decE l = 0) (k : Nat) (h1 : 1 ≤ k) (h2 : k < decN l) : decE (l.take k) = 23 := by
  have hm := (decE_zero l h).1
  have e2 : decN l = measN l := by simp [decN, hm]
  rw [e2] at h2
  have fin : ∀ m : List UInt8, m ≠ [] → measN m = m.length → measB m = false → decE m = 23 := by
    intro m hne hn hb
    unfold decE
    have : m.length ≠ 0 := fun e => hne (List.length_eq_zero_iff.1 e)
    simp [hne, hb, hn, this]
  rcases whole_cases l hm with ⟨a, t, rfl, hn, k1⟩ | ⟨a, b, t, rfl, hn, k1, k2⟩ | ⟨a, b, c, t, rfl, hn, k1, k2, k3⟩ | ⟨a, b, c, d, t, rfl, hn, k1, k2, k3, k4⟩
  · omega
  all_goals rw [hn] at h2
  · obtain rfl : k = 1 := by omega
    refine fin [a] (by simp) ?_ ?_
    · simp [measN, k1, goOn_nil]
    · simp [measB, k1, goOn_nil]
  · rcases (show k = 1 ∨ k = 2 by omega) with rfl | rfl
    · refine fin [a] (by simp) ?_ ?_
      · simp [measN, k1, goOn_nil]
      · simp [measB, k1, goOn_nil]
    · have g : goOn (bz a) 3 1 [b] = 2 := by rw [goOn_yes _ _ _ _ _ (by decide) (by simpa using k2), goOn_nil]
      refine fin [a, b] (by simp) ?_ ?_
      · simp [measN, k1, g]
      · simp [measB, k1, g]
  · rcases (show k = 1 ∨ k = 2 ∨ k = 3 by omega) with rfl | rfl | rfl
    · refine fin [a] (by simp) ?_ ?_
      · simp [measN, k1, goOn_nil]
      · simp [measB, k1, goOn_nil]
    · have g : goOn (bz a) 4 1 [b] = 2 := by rw [goOn_yes _ _ _ _ _ (by decide) (by simpa using k2), goOn_nil]
      refine fin [a, b] (by simp) ?_ ?_
      · simp [measN, k1, g]
      · simp [measB, k1, g]
    · have g : goOn (bz a) 4 1 [b, c] = 3 := by rw [goOn_yes _ _ _ _ _ (by decide) (by simpa using k2), goOn_yes _ _ _ _ _ (by decide) (by simpa using k3), goOn_nil]
      refine fin [a, b, c] (by simp) ?_ ?_
      · simp [measN, k1, g]
      · simp [measB, k1, g]

/-- A beginning of a valid string is valid, or ends in the middle of an encoding. -/
theorem prefix_err (l : List UInt8) : errOf l = 0 → ∀ k, errOf (l.take k) = 0 ∨ errOf (l.take k) = 23 := by
  refine scan_ind (P := fun l => errOf l = 0 → ∀ k, errOf (l.take k) = 0 ∨ errOf (l.take k) = 23) ?_ ?_ ?_ l
  · intro _ k; left; simp [errOf_nil]
  · intro l hl h hz; rw [errOf_bad l hl h] at hz; exact absurd hz h
  · intro l h ih hz k
    have hne := (decE_zero l h).2
    obtain ⟨_, el, sl, vl⟩ := valid_cons l hne hz
    by_cases c : decN l ≤ k
    · have e1 : l.take k = encL (decR l) ++ (l.drop (decN l)).take (k - decN l) := by
        rw [(enc_dec l h).1, ← List.take_add, Nat.add_sub_cancel' c]
      have hd := dec_enc (decR l) sl ((l.drop (decN l)).take (k - decN l))
      rw [e1, errOf_good _ hd.1, hd.2.2, List.drop_left]
      exact ih vl _
    · by_cases k0 : k = 0
      · left; rw [k0]; simp [errOf_nil]
      · right
        have h23 := decE_proper l h k (by omega) (by omega)
        rw [errOf_bad _ _ (by rw [h23]; decide), h23]
        intro e
        have := congrArg List.length e
        have hle := decN_le l
        rw [List.length_take, List.length_nil] at this
        omega

theorem atOf_shift (l : List UInt8) : errOf l ≠ 0 → ∀ k, atOf k l = k + atOf 0 l := by
  refine scan_ind (P := fun l => errOf l ≠ 0 → ∀ k, atOf k l = k + atOf 0 l) ?_ ?_ ?_ l
  · intro h; exact absurd rfl h
  · intro l hl h _ k; rw [atOf_bad k l hl h, atOf_bad 0 l hl h]; omega
  · intro l h ih hz k
    rw [errOf_good l h] at hz
    rw [atOf_good k l h, atOf_good 0 l h, ih hz (k + decN l), ih hz (0 + decN l)]; omega
/-- What stands ahead of the first error is valid. -/
theorem cut_valid (l : List UInt8) : errOf l ≠ 0 → errOf (l.take (atOf 0 l)) = 0 := by
  refine scan_ind (P := fun l => errOf l ≠ 0 → errOf (l.take (atOf 0 l)) = 0) ?_ ?_ ?_ l
  · intro h; exact absurd rfl h
  · intro l hl h _; rw [atOf_bad 0 l hl h]; simp [errOf_nil]
  · intro l h ih hz
    rw [errOf_good l h] at hz
    have he := enc_dec l h
    rw [atOf_good 0 l h, atOf_shift _ hz]
    have e1 : l.take (0 + decN l + atOf 0 (l.drop (decN l))) = encL (decR l) ++ (l.drop (decN l)).take (atOf 0 (l.drop (decN l))) := by
      rw [he.1, ← List.take_add, Nat.zero_add]
    have hd := dec_enc (decR l) he.2 ((l.drop (decN l)).take (atOf 0 (l.drop (decN l))))
    rw [e1, errOf_good _ hd.1, hd.2.2, List.drop_left]
    exact ih hz

/-- '[]byte(u)': a slice in new memory that reads back as u. -/
theorem bytes_of (u : ByteArray) (W : World) : ∃ sl W', (convert 9 38 (.string u)).run Tryd.prog W = .ok sl W' ∧ Gr W W' ∧ ∀ n, (convert 38 9 sl).run Tryd.prog (W'.drewN n) = .ok (.string u) (W'.drewN n) := by
  refine ⟨_, _, run_bytes_of_string W 9 38 5 u Tryd.underlying9 Tryd.underlying38 Tryd.underlying5, ((Gr.refl W).drew).alloc _, ?_⟩
  intro n
  have hl : u.size = u.data.toList.length := Lib.size_eq u
  have key := run_convert_bytes_back (P := Tryd.prog) ((W.drew.alloc (.cells (bytesRow u (grownCap W u.size 0 5)) 5 ((bytesRow u (grownCap W u.size 0 5)).size, (bytesRow u (grownCap W u.size 0 5)).size + 1))).drewN n) 38 9 5 ⟨W.heap.size, 0, none⟩ (grownCap W u.size 0 5) u.data.toList Tryd.underlying38 Tryd.underlying5 Tryd.underlying9 ?_
  · rw [← hl, Lib.mk_data] at key
    exact key
  · intro j hj
    have e : (⟨W.heap.size, 0, none⟩ : Addr).add j = ⟨W.heap.size, j, none⟩ := by unfold Addr.add; split <;> simp_all
    rw [e]
    have hc := World.cell?_alloc_mark W.drew (bytesRow u (grownCap W u.size 0 5)) 5 ((bytesRow u (grownCap W u.size 0 5)).size, (bytesRow u (grownCap W u.size 0 5)).size + 1) j
    have hr := bytesRow_at u (grownCap W u.size 0 5) j (by simpa using hj)
    exact hc.trans (by rw [hr]; simp)
end Go.Proofs.YtalommgkigacpaaDoor

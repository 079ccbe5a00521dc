/- The contract of the reference's All: two new slices of numbers, the offset of the first error and its kind. -/
import Derived.Test.YtalommgkigacpaaDoorBegins2
import Derived.Maps.AppendAt
import Derived.OwnWalk
namespace Go.Proofs.YtalommgkigacpaaDoor
open Go.RowKit

theorem Gr.by {w w' : World} (h : Gr w w') (row : Option Nat) : w.grownBy w' row := ⟨Below.os h, Below.tape h, Below.output h, Below.size h, fun k hk _ => Below.block h k hk⟩
theorem Gr.own {w w' : World} (h : Gr w w') {base : Nat} {e : TypeId} {size : Nat} {v : Value} {n : Nat} {xs : List Value} (ho : w.ownsRow base e size v n xs) : w'.ownsRow base e size v n xs :=
  ho.kept (h.by none) (by cases v.ownBlock <;> simp)

/-- Two slices over different blocks. -/
def Apart (u v : Value) : Prop := u.ownBlock = none ∨ u.ownBlock ≠ v.ownBlock
theorem Apart.symm {u v : Value} (h : Apart u v) : Apart v u := by
  unfold Apart at *
  rcases h with h | h
  · cases hv : v.ownBlock <;> simp [h]
  · exact .inr (fun e => h e.symm)

/-- Numbers in a slice of the call's own. -/
def Ints (w : World) (base : Nat) (v : Value) (xs : List Int) : Prop := w.ownsRow base 3 1 v xs.length (xs.map (Value.int .i64))
theorem Ints.gr {w w' : World} {base : Nat} {v : Value} {xs : List Int} (h : Ints w base v xs) (hg : Gr w w') : Ints w' base v xs := hg.own h

/-- Behind an append to u: u is longer, v is as it was, they are apart. -/
theorem two_step {W w1 : World} {base : Nat} {u v u' : Value} {xs ys : List Int} {x : Int} (_hu : Ints W base u xs) (hv : Ints W base v ys) (ha : Apart u v)
    (ho : w1.ownsRow base 3 1 u' (xs.length + 1) (xs.map (Value.int .i64) ++ [.int .i64 x])) (hg : W.grownBy w1 u.ownBlock) (hat : u'.ownBlock = u.ownBlock ∨ u'.ownBlock = some W.heap.size) :
    Ints w1 base u' (xs ++ [x]) ∧ Ints w1 base v ys ∧ Apart u' v := by
  refine ⟨?_, hv.kept hg ha.symm, ?_⟩
  · unfold Ints; simpa using ho
  · rcases hat with h | h
    · unfold Apart at *; rw [h]; exact ha
    · refine .inr (fun e => ?_)
      rw [h] at e
      have := (World.ownsRow.lt hv) _ e.symm
      omega

theorem info3 : (Tryd.prog.info? 3).map (fun i => (i.zero, i.size, i.bytes)) = some (some (.int .i64 0), 1, 8) := by kernel_rfl

def natsZ (l : List Nat) : List Int := l.map Int.ofNat

/-- What All leaves: two new slices of numbers, a number, a number. -/
def AllPost (w : World) (RS OS : List Int) (A : Nat) (E : Int) (e : Ending) (w' : World) : Prop :=
  ∃ u v, e = .returned (.tuple #[u, v, .int .i64 A, .int .i64 E]) ∧ Ints w' w.heap.size u RS ∧ Ints w' w.heap.size v OS ∧ Gr w w'

set_option maxRecDepth 100000 in
set_option maxHeartbeats 1000000 in
theorem all_core (s : ByteArray) (w : World) (hs : s.size ≤ 1000000) (RS OS : List Int) (A : Nat) (E : Int) (hRS : Hid (RS = runOf (bl s))) (hOS : Hid (OS = natsZ (offOf 0 (bl s)))) (hA : Hid (A = atOf 0 (bl s))) (hE : Hid (E = errOf (bl s))) :
    Calls Tryd.prog 15 #[.string s] w (AllPost w RS OS A E) := by
  obtain ⟨i0, hi, hz0, hz1, hz2⟩ := info_parts info3
  go_enter Tryd.func15, Tryd.ntmps15
  go_wp2_with fail
  go_loopw [6, 7, 8, 9, 10, 11] (fun u v at_ _ _ _ wr => ∃ (k : Nat) (rs os : List Int), k ≤ s.size ∧ at_ = .int .i64 k ∧ rs.length ≤ k ∧ os.length ≤ k ∧ Hid (RS = rs ++ runOf ((bl s).drop k)) ∧ Hid (OS = os ++ natsZ (offOf k ((bl s).drop k))) ∧ Hid (A = atOf k ((bl s).drop k)) ∧ Hid (E = errOf ((bl s).drop k)) ∧
    Ints wr w.heap.size u rs ∧ Ints wr w.heap.size v os ∧ Apart u v ∧ Gr w wr) (fun _ _ at_ _ _ _ _ => s.size - (intOf at_).toNat)
  case atStart => exact ⟨0, [], [], Nat.zero_le _, rfl, Nat.zero_le _, Nat.zero_le _, hRS, hOS, hA, hE, World.ownsRow_nil _ _ _ _, World.ownsRow_nil _ _ _ _, .inl rfl, Gr.refl _⟩
  case round =>
    obtain ⟨k, rs, os, hk, rfl, hl1, hl2, kR, kO, kA, kE, iu, iv, hap, hg⟩ := hrel
    clear hRS hOS hA hE
    by_cases c : k < s.size
    · have hne : (bl s).drop k ≠ [] := by rw [bl_drop s k c]; simp
      by_cases d : decE ((bl s).drop k) = 0
      · have hn1 := decN_pos _ d
        have hn2 := decN_le ((bl s).drop k)
        rw [List.length_drop, bl_length] at hn2
        have kR' : Hid (RS = (rs ++ [decR ((bl s).drop k)]) ++ runOf ((bl s).drop (k + decN ((bl s).drop k)))) := by
          have := kR.out; rw [runOf_good _ d, List.drop_drop] at this; simpa [Hid] using this
        have kO' : Hid (OS = (os ++ [(k : Int)]) ++ natsZ (offOf (k + decN ((bl s).drop k)) ((bl s).drop (k + decN ((bl s).drop k))))) := by
          have := kO.out; rw [offOf_good _ _ d, List.drop_drop] at this; simpa [Hid, natsZ] using this
        have kA' : Hid (A = atOf (k + decN ((bl s).drop k)) ((bl s).drop (k + decN ((bl s).drop k)))) := by
          have := kA.out; rw [atOf_good _ _ d, List.drop_drop] at this; exact this
        have kE' : Hid (E = errOf ((bl s).drop (k + decN ((bl s).drop k)))) := by
          have := kE.out; rw [errOf_good _ d, List.drop_drop] at this; exact this
        have D := Lib.hid d
        clear d kR kO kA kE hne
        go_wp2_with fail
        refine (first_dec_any _ _ (by rw [from_size]; omega) (by rw [from_size]; omega)).mono ?_
        rintro e w' ⟨rfl, hg'⟩
        rw [bl_from, D.out]
        clear D
        generalize decR ((bl s).drop k) = R at *
        generalize decN ((bl s).drop k) = n at *
        have iu' := iu.gr hg'
        have iv' := iv.gr hg'
        have hgg := hg.trans hg'
        clear iu iv
        have hB := hgg.size
        have m1 : rs.length + 1 ≤ maxLen := by unfold maxLen; omega
        have m2 : os.length + 1 ≤ maxLen := by unfold maxLen; omega
        have b1 : (rs.length + 1) * 8 ≤ 140737488355328 := by omega
        have b2 : (os.length + 1) * 8 ≤ 140737488355328 := by omega
        go_wp2_with (at_builtin; refine wpList_append_own_at _ rfl (.tmp 30) (.tmp 32) 23 rfl w.heap.size 3 i0 (.int .i64 0) 1 8 Tryd.underlying23 hi hz0 hz1 hz2 rfl (by decide) _ _ _ rfl (World.ownsRow.alloc iu' _) ⟨w'.heap.size, 0, none⟩ 1 1 [.int .i64 R] rfl rfl (cell_one_new _ _ _) ?_ m1 b1 ?_ ?_)
        · intro u hu; simp at hu; subst hu; rfl
        · simp; omega
        intro u1 w1 ho1 hgr1 _ hat1
        obtain ⟨ju, jv, jap⟩ := two_step (iu'.gr ((Gr.refl _).alloc _)) (iv'.gr ((Gr.refl _).alloc _)) hap ho1 hgr1 (by simpa using hat1)
        have hg1 : Gr w w1 := (hgg.alloc _).grown hgr1 (fun q hq => (World.ownsRow.lt iu' q hq).1)
        clear ho1 hgr1 hat1 iu' iv' hap hgg hg hg' hB m1 b1
        have hB := hg1.size
        go_wp2_with (at_builtin; refine wpList_append_own_at _ rfl (.tmp 34) (.tmp 36) 23 rfl w.heap.size 3 i0 (.int .i64 0) 1 8 Tryd.underlying23 hi hz0 hz1 hz2 rfl (by decide) _ _ _ rfl (World.ownsRow.alloc jv _) ⟨w1.heap.size, 0, none⟩ 1 1 [.int .i64 k] rfl rfl (cell_one_new _ _ _) ?_ m2 b2 ?_ ?_)
        · intro u hu; simp at hu; subst hu; rfl
        · simp; omega
        intro v2 w2 ho2 hgr2 _ hat2
        obtain ⟨kv, ku, kap⟩ := two_step (jv.gr ((Gr.refl _).alloc _)) (ju.gr ((Gr.refl _).alloc _)) jap.symm ho2 hgr2 (by simpa using hat2)
        have hg2 : Gr w w2 := (hg1.alloc _).grown hgr2 (fun q hq => (World.ownsRow.lt jv q hq).1)
        clear ho2 hgr2 hat2 ju jv jap hg1 hB m2 b2
        go_wp2_with fail
        go_roundw
        case rel => exact ⟨k + n, rs ++ [R], os ++ [(k : Int)], by omega, by go_num, by simp; omega, by simp; omega, kR', kO', kA', kE', ku, kv, kap.symm, hg2⟩
        case measure => simp [intOf]; omega
      · have kR' : Hid (RS = rs) := by
          have := kR.out; rw [runOf_bad _ d, List.append_nil] at this; exact this
        have kO' : Hid (OS = os) := by
          have := kO.out; rw [offOf_bad _ _ d] at this; simpa [Hid, natsZ] using this
        have kA' : Hid (A = k) := by
          have := kA.out; rw [atOf_bad _ _ hne d] at this; exact this
        have kE' : Hid (E = decE ((bl s).drop k)) := by
          have := kE.out; rw [errOf_bad _ hne d] at this; exact this
        have D : (decE ((bl s).drop k) != 0) = true := by simpa using d
        clear d kR kO kA kE hne
        go_wp2_with fail
        refine (first_dec_any _ _ (by rw [from_size]; omega) (by rw [from_size]; omega)).mono ?_
        rintro e w' ⟨rfl, hg'⟩
        rw [bl_from]
        generalize decR ((bl s).drop k) = R at *
        generalize decN ((bl s).drop k) = n at *
        generalize decE ((bl s).drop k) = x at *
        go_wp2_with fail
        refine bodyPost_ret (four_results rfl _ _ _) rfl ?_
        have h1 := kR'.out; have h2 := kO'.out; have h3 := kA'.out; have h4 := kE'.out
        subst h1 h2 h3 h4
        exact ⟨_, _, rfl, iu.gr hg', iv.gr hg', hg.trans hg'⟩
    · have h0 : (bl s).drop k = [] := List.drop_of_length_le (by rw [bl_length]; omega)
      have kR' : Hid (RS = rs) := by
        have := kR.out; rw [h0, runOf_nil, List.append_nil] at this; exact this
      have kO' : Hid (OS = os) := by
        have := kO.out; rw [h0, offOf_nil] at this; simpa [Hid, natsZ] using this
      have kA' : Hid (A = 0) := by
        have := kA.out; rw [h0, atOf_nil] at this; exact this
      have kE' : Hid (E = 0) := by
        have := kE.out; rw [h0, errOf_nil] at this; exact this
      clear h0 kR kO kA kE
      go_wp2_with fail
      refine bodyPost_ret (four_results rfl _ _ _) rfl ?_
      have h1 := kR'.out; have h2 := kO'.out; have h3 := kA'.out; have h4 := kE'.out
      subst h1 h2 h3 h4
      exact ⟨_, _, rfl, iu, iv, hg⟩

/-- The reference's All. -/
theorem all_any (s : ByteArray) (w : World) (hs : s.size ≤ 1000000) :
    Calls Tryd.prog 15 #[.string s] w (AllPost w (runOf (bl s)) (natsZ (offOf 0 (bl s))) (atOf 0 (bl s)) (errOf (bl s))) :=
  all_core s w hs _ _ _ _ rfl rfl rfl rfl
end Go.Proofs.YtalommgkigacpaaDoor

/- The walk of the law Utf8Truncate: it returns true, and nothing that was there turns. -/
import Derived.Test.YtalommgkigacpaaDoorTrunc
import Derived.Test.YtalommgkigacpaaDoorLawC
namespace Go.Proofs.YtalommgkigacpaaDoor
open Go.RowKit

theorem natsZ_get (l : List Nat) (k : Nat) (h : k < (natsZ l).length) : (natsZ l)[k] = ((l[k]'(by simpa [natsZ] using h) : Nat) : Int) := by simp [natsZ]
theorem natsZ_len (l : List Nat) : (natsZ l).length = l.length := by simp [natsZ]
theorem natsZ_snoc (l : List Nat) (x : Nat) : natsZ l ++ [(x : Int)] = natsZ (l ++ [x]) := by simp [natsZ]
theorem take_one (l : List Nat) (k : Nat) (h : k < l.length) (m : Int) : lastLe m (l.take (k + 1)) = if (l[k] : Int) ≤ m then l[k] else lastLe m (l.take k) := by
  rw [List.take_succ_eq_append_getElem h, lastLe_snoc]

theorem tr_end (t : ByteArray) (m : Int) (hE : errOf (bl t) = 0) (h0 : 0 ≤ m) : trB t m = t.extract 0 (lastLe m (offOf 0 (bl t) ++ [t.size])) ∧ lastLe m (offOf 0 (bl t) ++ [t.size]) ≤ t.size := by
  rw [lastLe_snoc]
  unfold trB
  rw [if_pos ⟨hE, h0⟩]
  by_cases h : (t.size : Int) ≤ m
  · rw [if_pos h, if_pos h]
    refine ⟨?_, Nat.le_refl _⟩
    apply bl_inj; rw [bl_take, List.take_of_length_le (by rw [bl_length]; exact Nat.le_refl _)]
  · rw [if_neg h, if_neg h]
    refine ⟨rfl, ?_⟩
    rcases lastLe_mem m (offOf 0 (bl t)) with h1 | h1
    · omega
    · have := offOf_ge (bl t) 0 _ h1; rw [bl_length] at this; omega

set_option maxHeartbeats 2000000 in
set_option maxRecDepth 100000 in
theorem utf8Truncate_early (t : ByteArray) (m : Int) (s : ByteArray) (w : World) (hT : Tab w) (hs : s.size ≤ 140737488351232) (ht : Hid (shortB s 300 = t)) (hz : t.size ≤ 300) (E : Int) (hE : Hid (errOf (bl t) = E))
    (h : ((E != 0) = true ∧ Hid (trB t m = ⟨#[]⟩ ∧ trE t m = E)) ∨ (E = 0 ∧ m < 0 ∧ Hid (trB t m = ⟨#[]⟩ ∧ trE t m = 2))) :
    Calls Tryd.prog 10 #[.string s, .int .i64 m] w fun e w' => e = .returned (.bool true) ∧ Gr w w' := by
  have T0 := Lib.hid hT
  clear hT
  rcases h with ⟨h0, hR⟩ | ⟨rfl, h0, hR⟩
  all_goals
    go_enter Tryd.func10, Tryd.ntmps10
    go_wp2_with fail
    refine (short_any s 300 _ hs (by decide)).mono ?_
    rintro e w' ⟨rfl, rfl⟩
    rw [ht.out]
    go_wp2_with fail
    refine (all_any t _ (by omega)).mono ?_
    rintro e w1 ⟨u, v, rfl, hu, hv, hg1⟩
    rw [hE.out]
    have T1 := Lib.hid (T0.out.gr hg1)
    clear hu hv
    generalize atOf 0 (bl t) = A
    go_wp2_with fail
    refine (trunc_any t m _ (by omega)).mono ?_
    rintro e w2 ⟨rfl, hg2⟩
    rw [hR.out.1, hR.out.2]
    have T2 := Lib.hid (T1.out.gr hg2)
    go_wp2_with fail
    refine (known_any _ T2.out).mono ?_
    rintro e w3 ⟨rfl, hg3⟩
    go_wp2_with fail
    go_ret
    exact ⟨rfl, (hg1.trans hg2).trans hg3⟩

set_option maxHeartbeats 2000000 in
set_option maxRecDepth 100000 in
theorem utf8Truncate_main (t : ByteArray) (m : Int) (s : ByteArray) (w : World) (hT : Tab w) (hs : s.size ≤ 140737488351232) (ht : Hid (shortB s 300 = t)) (hz : t.size ≤ 300) (hE : Hid (errOf (bl t) = 0)) (h0 : 0 ≤ m) :
    Calls Tryd.prog 10 #[.string s, .int .i64 m] w fun e w' => e = .returned (.bool true) ∧ Gr w w' := by
  have T0 := Lib.hid hT
  clear hT
  obtain ⟨i0, hi, hz0, hz1, hz2⟩ := info_parts info3
  have hEnd := tr_end t m hE.out h0
  have HEnd := Lib.hid hEnd
  have htE : Hid (trE t m = 0) := by show _ = _; unfold trE; rw [if_pos hE.out, if_pos h0]
  clear hEnd
  have hol : (offOf 0 (bl t)).length ≤ 300 := by rw [← len_run_off]; have := len_run (bl t); rw [bl_length] at this; omega
  go_enter Tryd.func10, Tryd.ntmps10
  go_wp2_with fail
  refine (short_any s 300 _ hs (by decide)).mono ?_
  rintro e w' ⟨rfl, rfl⟩
  rw [ht.out]
  go_wp2_with fail
  refine (all_any t _ (by omega)).mono ?_
  rintro e w1 ⟨u, v, rfl, hu, hv, hg1⟩
  rw [hE.out]
  have T1 := Lib.hid (T0.out.gr hg1)
  clear hu
  generalize atOf 0 (bl t) = A
  generalize offOf 0 (bl t) = offs at *
  have HV := Lib.hid hv
  clear hv
  go_wp2_with fail
  refine (trunc_any t m _ (by omega)).mono ?_
  rintro e w2 ⟨rfl, hg2⟩
  rw [htE.out]
  have T2 := Lib.hid (T1.out.gr hg2)
  generalize trB t m = TR at *
  go_wp2_with fail
  refine (known_any _ T2.out).mono ?_
  rintro e w3 ⟨rfl, hg3⟩
  have iv := (HV.out.gr hg2).gr hg3
  have hG := (hg1.trans hg2).trans hg3
  have hsz := hG.size
  clear HV
  have m1 : (natsZ offs).length + 1 ≤ maxLen := by rw [natsZ_len]; unfold maxLen; omega
  have b1 : ((natsZ offs).length + 1) * 8 ≤ 140737488355328 := by rw [natsZ_len]; omega
  go_wp2_with (at_builtin; refine wpList_append_own_at _ rfl (.tmp 47) (.tmp 50) 23 rfl w.heap.size 3 i0 (.int .i64 0) 1 8 Tryd.underlying23 hi hz0 hz1 hz2 rfl (by decide) _ _ _ rfl (World.ownsRow.alloc iv _) ⟨w3.heap.size, 0, none⟩ 1 1 [.int .i64 t.size] rfl rfl (cell_one_new _ _ _) ?_ m1 b1 ?_ ?_)
  · intro u hu; simp at hu; subst hu; rfl
  · simp; omega
  intro v4 w4 ho4 hgr4 _ _
  have i4 : Ints w4 w.heap.size v4 (natsZ (offs ++ [t.size])) := by
    rw [← natsZ_snoc]; unfold Ints; simpa using ho4
  have hg4 : Gr w w4 := (hG.alloc _).grown hgr4 (fun q hq => (World.ownsRow.lt iv q hq).1)
  clear ho4 hgr4 iv m1 b1
  obtain ⟨a, cap, rfl, hcl⟩ := i4.form
  have HCL := Lib.hid hcl
  clear hcl i4
  have hle : (offs ++ [t.size]).length ≤ 301 := by simp; omega
  generalize offs ++ [t.size] = zs at *
  rw [natsZ_len] at *
  go_wp2_with fail
  go_loop [11, 12] (fun e i => ∃ k : Nat, k ≤ zs.length ∧ i = .int .i64 k ∧ e = .int .i64 (lastLe m (zs.take k) : Nat)) (fun _ i => zs.length - (intOf i).toNat)
  case atStart => exact ⟨0, Nat.zero_le _, rfl, rfl⟩
  case round =>
    obtain ⟨k, hk, rfl, rfl⟩ := hrel
    by_cases c : k < zs.length
    · obtain ⟨g, rfl, hgl, hc⟩ := HCL.out k (by rw [natsZ_len]; exact c)
      rw [natsZ_get] at hc
      have hS := Lib.hid (take_one zs k c m)
      by_cases d : (zs[k] : Int) ≤ m
      · go_wp2_with fail
        exact ⟨⟨k + 1, by omega, by go_num, by rw [hS.out, if_pos d]⟩, by simp [intOf]; omega⟩
      · go_wp2_with fail
        exact ⟨⟨k + 1, by omega, by go_num, by rw [hS.out, if_neg d]⟩, by simp [intOf]; omega⟩
    · have e1 : zs.take k = zs := List.take_of_length_le (by omega)
      rw [e1]
      clear e1 HCL
      have hL := HEnd.out.2
      have hT1 := HEnd.out.1
      generalize lastLe m zs = L at *
      subst hT1
      clear HEnd
      go_wp2_with fail
      go_ret
      exact ⟨rfl, hg4⟩

theorem utf8Truncate_walk (s : ByteArray) (m : Int) (w : World) (hT : Tab w) (hs : s.size ≤ 140737488351232) (_h1 : -9223372036854775808 ≤ m) (_h2 : m ≤ 9223372036854775807) :
    Calls Tryd.prog 10 #[.string s, .int .i64 m] w fun e w' => e = .returned (.bool true) ∧ Gr w w' := by
  have hz : (shortB s 300).size ≤ 300 := by rw [shortB_size]; omega
  by_cases h : errOf (bl (shortB s 300)) = 0
  · by_cases h1 : 0 ≤ m
    · exact utf8Truncate_main _ m s w hT hs rfl hz h h1
    · refine utf8Truncate_early _ m s w hT hs rfl hz 0 h (.inr ⟨rfl, by omega, ?_⟩)
      exact ⟨by unfold trB; rw [if_neg (fun x => h1 x.2)], by unfold trE; rw [if_pos h, if_neg h1]⟩
  · refine utf8Truncate_early _ m s w hT hs rfl hz _ rfl (.inl ⟨by simpa using h, ?_⟩)
    exact ⟨by unfold trB; rw [if_neg (fun x => h x.1)], by unfold trE; rw [if_neg h]⟩
end Go.Proofs.YtalommgkigacpaaDoor

/- The walk of the law Utf8Order: it returns true, and nothing that was there turns. -/
import Derived.Test.YtalommgkigacpaaDoorOrder
import Derived.Test.YtalommgkigacpaaDoorLawN
import Derived.WalkLawsBesides
namespace Go.Proofs.YtalommgkigacpaaDoor
open Go.RowKit

theorem bl_app (a b : ByteArray) : bl (a ++ b) = bl a ++ bl b := by unfold bl; simp
theorem less_eq : ∀ (l m : List UInt8), Op.bytesLess l m = lessL l m
  | [], [] => rfl
  | [], _ :: _ => rfl
  | _ :: _, [] => rfl
  | a :: l, b :: m => by
    simp only [Op.bytesLess, lessL, less_eq l m]
    by_cases h1 : a < b
    · simp [h1]
    · by_cases h2 : b < a
      · have : a ≠ b := by intro e; subst e; exact h1 h2
        simp [h1, h2, this]
      · have : a = b := by
          rw [lt_bz] at h1 h2
          have e : bz a = bz b := by omega
          rw [← toB_bz a, e, toB_bz]
        simp [this]
theorem lessZ_drop (xs ys : List Int) (k : Nat) (h1 : k < xs.length) (h2 : k < ys.length) : lessZ (xs.drop k) (ys.drop k) = if xs[k] < ys[k] then true else if ys[k] < xs[k] then false else lessZ (xs.drop (k + 1)) (ys.drop (k + 1)) := by
  rw [List.drop_eq_getElem_cons h1, List.drop_eq_getElem_cons h2]; rfl

set_option maxHeartbeats 1000000 in
set_option maxRecDepth 100000 in
theorem utf8Order_bad (s t s1 t1 : ByteArray) (w : World) (hT : Tab w) (hs : s.size ≤ 140737488351232) (ht : t.size ≤ 140737488351232) (h1 : Hid (shortB s 100 = s1)) (h2 : Hid (shortB t 100 = t1)) (z1 : s1.size ≤ 100) (z2 : t1.size ≤ 100)
    (h : Hid ((errOf (bl s1) == 0) = false) ∨ (Hid ((errOf (bl s1) == 0) = true) ∧ Hid ((errOf (bl t1) == 0) = false))) :
    Calls Tryd.prog 8 #[.string s, .string t] w fun e w' => e = .returned (.bool true) ∧ Gr w w' := by
  have T0 := Lib.hid hT
  clear hT
  rcases h with E1 | ⟨E1, E2⟩
  · go_enter Tryd.func8, Tryd.ntmps8
    go_wp2_with fail
    refine (short_any s 100 _ hs (by decide)).mono ?_
    rintro e w' ⟨rfl, rfl⟩
    rw [h1.out]
    go_wp2_with fail
    refine (short_any t 100 _ ht (by decide)).mono ?_
    rintro e w' ⟨rfl, rfl⟩
    rw [h2.out]
    go_wp2_with fail
    refine (known_any _ T0.out).mono ?_
    rintro e w1 ⟨rfl, hg1⟩
    have T1 := Lib.hid (T0.out.gr hg1)
    go_wp2_with fail
    refine (valid_any s1 _ (by omega)).mono ?_
    rintro e w2 ⟨rfl, hg2⟩
    rw [E1.out]
    have T2 := Lib.hid (T1.out.gr hg2)
    go_wp2_with fail
    refine (known_any _ T2.out).mono ?_
    rintro e w3 ⟨rfl, hg3⟩
    go_wp2_with fail
    go_ret
    exact ⟨rfl, (hg1.trans hg2).trans hg3⟩
  · go_enter Tryd.func8, Tryd.ntmps8
    go_wp2_with fail
    refine (short_any s 100 _ hs (by decide)).mono ?_
    rintro e w' ⟨rfl, rfl⟩
    rw [h1.out]
    go_wp2_with fail
    refine (short_any t 100 _ ht (by decide)).mono ?_
    rintro e w' ⟨rfl, rfl⟩
    rw [h2.out]
    go_wp2_with fail
    refine (known_any _ T0.out).mono ?_
    rintro e w1 ⟨rfl, hg1⟩
    have T1 := Lib.hid (T0.out.gr hg1)
    go_wp2_with fail
    refine (valid_any s1 _ (by omega)).mono ?_
    rintro e w2 ⟨rfl, hg2⟩
    rw [E1.out]
    have T2 := Lib.hid (T1.out.gr hg2)
    go_wp2_with fail
    refine (valid_any t1 _ (by omega)).mono ?_
    rintro e w3 ⟨rfl, hg3⟩
    rw [E2.out]
    have T3 := Lib.hid (T2.out.gr hg3)
    go_wp2_with fail
    refine (known_any _ T3.out).mono ?_
    rintro e w4 ⟨rfl, hg4⟩
    go_wp2_with fail
    go_ret
    exact ⟨rfl, ((hg1.trans hg2).trans hg3).trans hg4⟩

set_option maxHeartbeats 4000000 in
set_option maxRecDepth 100000 in
theorem utf8Order_good (s t s1 t1 : ByteArray) (w : World) (hT : Tab w) (hs : s.size ≤ 140737488351232) (ht : t.size ≤ 140737488351232) (h1 : Hid (shortB s 100 = s1)) (h2 : Hid (shortB t 100 = t1)) (z1 : s1.size ≤ 100) (z2 : t1.size ≤ 100)
    (E1 : Hid (errOf (bl s1) = 0)) (E2 : Hid (errOf (bl t1) = 0)) (xs ys : List Int) (hx : Hid (runOf (bl s1) = xs)) (hy : Hid (runOf (bl t1) = ys)) (lx : xs.length ≤ 100) (ly : ys.length ≤ 100)
    (C1 : Hid (cntZ (bl s1) = xs.length)) (C2 : Hid (cntZ (bl t1) = ys.length)) (C3 : Hid (cntZ (bl (s1 ++ t1)) = (xs.length : Int) + (ys.length : Int) ∧ errOf (bl (s1 ++ t1)) = 0)) (LT : Bool) (HLT : Hid (Op.bytesLess s1.toList t1.toList = LT)) (HZ : Hid (lessZ xs ys = LT)) :
    Calls Tryd.prog 8 #[.string s, .string t] w fun e w' => e = .returned (.bool true) ∧ Gr w w' := by
  have T0 := Lib.hid hT
  clear hT
  go_enter Tryd.func8, Tryd.ntmps8
  go_wp2_with fail
  refine (short_any s 100 _ hs (by decide)).mono ?_
  rintro e w' ⟨rfl, rfl⟩
  rw [h1.out]
  go_wp2_with fail
  refine (short_any t 100 _ ht (by decide)).mono ?_
  rintro e w' ⟨rfl, rfl⟩
  rw [h2.out]
  go_wp2_with fail
  refine (known_any _ T0.out).mono ?_
  rintro e w1 ⟨rfl, hg1⟩
  go_wp2_with fail
  refine (valid_any s1 _ (by omega)).mono ?_
  rintro e w2 ⟨rfl, hg2⟩
  rw [E1.out]
  go_wp2_with fail
  refine (valid_any t1 _ (by omega)).mono ?_
  rintro e w3 ⟨rfl, hg3⟩
  rw [E2.out]
  go_wp2_with fail
  refine (all_any s1 _ (by omega)).mono ?_
  rintro e w4 ⟨u, v, rfl, hu, _, hg4⟩
  rw [hx.out] at hu
  rw [E1.out]
  generalize atOf 0 (bl s1) = A1
  go_wp2_with fail
  refine (all_any t1 _ (by omega)).mono ?_
  rintro e w5 ⟨u', v', rfl, hu', _, hg5⟩
  rw [hy.out] at hu'
  rw [E2.out]
  generalize atOf 0 (bl t1) = A2
  obtain ⟨a, cap, rfl, hcl⟩ := (hu.gr hg5).form
  obtain ⟨a', cap', rfl, hcl'⟩ := hu'.form
  have HCL := Lib.hid hcl; have HCL' := Lib.hid hcl'
  clear hcl hcl' hu hu'
  have hG := Lib.hid ((((hg1.trans hg2).trans hg3).trans hg4).trans hg5)
  clear hg1 hg2 hg3 hg4 hg5
  go_wp2_with fail
  go_loopw [14] (fun i wr => ∃ k : Nat, k ≤ xs.length ∧ k ≤ ys.length ∧ i = .int .i64 k ∧ Hid (lessZ (xs.drop k) (ys.drop k) = LT) ∧ Hid (Gr w5 wr)) (fun i _ => xs.length - (intOf i).toNat)
  case atStart => exact ⟨0, Nat.zero_le _, Nat.zero_le _, rfl, HZ, Gr.refl _⟩
  case round =>
    obtain ⟨k, hk1, hk2, rfl, kZ, kG⟩ := hrel
    have hgr := hG.out.trans kG.out
    have Hgr := Lib.hid hgr
    clear HZ
    by_cases c1 : k < xs.length
    · by_cases c2 : k < ys.length
      · obtain ⟨g, rfl, hgl, hc⟩ := HCL.out k c1
        obtain ⟨g', rfl, hgl', hc'⟩ := HCL'.out k c2
        have d1 := (kG.out.cell (p := ⟨g, k, none⟩) hgl).trans hc
        have d2 := (kG.out.cell (p := ⟨g', k, none⟩) hgl').trans hc'
        clear hc hc' HCL HCL'
        have hS := lessZ_drop xs ys k c1 c2
        rw [kZ.out] at hS
        have HS := Lib.hid hS
        clear hS kZ
        generalize hxk : xs[k] = p at *
        generalize hyk : ys[k] = q at *
        clear hxk hyk
        by_cases e : p = q
        · have ez : (p == q) = true := by simp [e]
          have kZ' : Hid (lessZ (xs.drop (k + 1)) (ys.drop (k + 1)) = LT) := by
            have := HS.out; rw [if_neg (by omega), if_neg (by omega)] at this; exact this.symm
          clear e HS hgr
          go_wp2_with fail
          go_quiet (fail)
          go_wp2_with fail
          go_roundw
          case rel => exact ⟨k + 1, by omega, by omega, by go_num, kZ', kG.out.drewN _⟩
          case measure => simp [intOf]; omega
        · have ez : (p == q) = false := by simpa using e
          have hlz : Hid (LT = decide (p < q)) := by
            have := HS.out
            show _ = _
            by_cases pq : p < q
            · rw [if_pos pq] at this; rw [this]; simp [pq]
            · rw [if_neg pq, if_pos (by omega)] at this; rw [this]; simp [pq]
          clear e HS hgr
          go_wp2_with fail
          go_quiet (fail)
          go_wp2_with fail
          go_quiet (fail)
          have hgr := Hgr.out
          have := hlz.out
          subst this
          go_wp2_with fail
          refine (count_any s1 _ (by omega)).mono ?_
          rintro e w6 ⟨rfl, hg6⟩
          rw [C1.out, E1.out]
          go_wp2_with fail
          refine (count_any t1 _ (by omega)).mono ?_
          rintro e w7 ⟨rfl, hg7⟩
          rw [C2.out, E2.out]
          go_wp2_with fail
          refine (count_any (s1 ++ t1) _ (by rw [ByteArray.size_append]; omega)).mono ?_
          rintro e w8 ⟨rfl, hg8⟩
          rw [C3.out.1, C3.out.2]
          have hlt := HLT.out
          go_wp2_with fail
          refine (valid_any (s1 ++ t1) _ (by rw [ByteArray.size_append]; omega)).mono ?_
          rintro e w9 ⟨rfl, hg9⟩
          rw [C3.out.2]
          go_wp2_with fail
          go_ret
          exact ⟨rfl, ((((hgr.drewN _).trans hg6).trans hg7).trans hg8).trans hg9⟩
      · have c2' : decide (k < ys.length) = false := by simpa using c2
        have hlz : Hid (LT = decide (xs.length < ys.length)) := by
          have := kZ.out
          rw [List.drop_of_length_le (l := ys) (by omega), List.drop_eq_getElem_cons c1] at this
          show _ = _
          rw [← this]; simp [lessZ]; omega
        clear kZ hgr HCL HCL'
        go_wp2_with fail
        go_quiet (fail)
        go_wp2_with fail
        have hgr := Hgr.out
        have := hlz.out
        subst this
        go_wp2_with fail
        refine (count_any s1 _ (by omega)).mono ?_
        rintro e w6 ⟨rfl, hg6⟩
        rw [C1.out, E1.out]
        go_wp2_with fail
        refine (count_any t1 _ (by omega)).mono ?_
        rintro e w7 ⟨rfl, hg7⟩
        rw [C2.out, E2.out]
        go_wp2_with fail
        refine (count_any (s1 ++ t1) _ (by rw [ByteArray.size_append]; omega)).mono ?_
        rintro e w8 ⟨rfl, hg8⟩
        rw [C3.out.1, C3.out.2]
        have hlt := HLT.out
        go_wp2_with fail
        refine (valid_any (s1 ++ t1) _ (by rw [ByteArray.size_append]; omega)).mono ?_
        rintro e w9 ⟨rfl, hg9⟩
        rw [C3.out.2]
        go_wp2_with fail
        go_ret
        exact ⟨rfl, ((((hgr.drewN _).trans hg6).trans hg7).trans hg8).trans hg9⟩
    · have c1' : decide (k < xs.length) = false := by simpa using c1
      have hlz : Hid (LT = decide (xs.length < ys.length)) := by
        have := kZ.out
        rw [List.drop_of_length_le (l := xs) (by omega)] at this
        show _ = _
        rw [← this]
        rcases hd : ys.drop k with _ | ⟨y, r⟩
        · have : ys.length ≤ k := by rw [List.drop_eq_nil_iff] at hd; exact hd
          simp [lessZ]; omega
        · have : k < ys.length := by
            rcases Nat.lt_or_ge k ys.length with h | h
            · exact h
            · rw [List.drop_of_length_le h] at hd; cases hd
          simp [lessZ]; omega
      clear kZ hgr HCL HCL'
      go_wp2_with fail
      go_quiet (fail)
      go_wp2_with fail
      have hgr := Hgr.out
      have := hlz.out
      subst this
      go_wp2_with fail
      refine (count_any s1 _ (by omega)).mono ?_
      rintro e w6 ⟨rfl, hg6⟩
      rw [C1.out, E1.out]
      go_wp2_with fail
      refine (count_any t1 _ (by omega)).mono ?_
      rintro e w7 ⟨rfl, hg7⟩
      rw [C2.out, E2.out]
      go_wp2_with fail
      refine (count_any (s1 ++ t1) _ (by rw [ByteArray.size_append]; omega)).mono ?_
      rintro e w8 ⟨rfl, hg8⟩
      rw [C3.out.1, C3.out.2]
      have hlt := HLT.out
      go_wp2_with fail
      refine (valid_any (s1 ++ t1) _ (by rw [ByteArray.size_append]; omega)).mono ?_
      rintro e w9 ⟨rfl, hg9⟩
      rw [C3.out.2]
      go_wp2_with fail
      go_ret
      exact ⟨rfl, ((((hgr.drewN _).trans hg6).trans hg7).trans hg8).trans hg9⟩

theorem utf8Order_walk (s t : ByteArray) (w : World) (hT : Tab w) (hs : s.size ≤ 140737488351232) (ht : t.size ≤ 140737488351232) :
    Calls Tryd.prog 8 #[.string s, .string t] w fun e w' => e = .returned (.bool true) ∧ Gr w w' := by
  have z1 : (shortB s 100).size ≤ 100 := by rw [shortB_size]; omega
  have z2 : (shortB t 100).size ≤ 100 := by rw [shortB_size]; omega
  generalize h1 : shortB s 100 = s1 at *
  generalize h2 : shortB t 100 = t1 at *
  by_cases e1 : errOf (bl s1) = 0
  · by_cases e2 : errOf (bl t1) = 0
    · have l1 := len_run (bl s1); have l2 := len_run (bl t1)
      rw [bl_length] at l1 l2
      have e3 : errOf (bl (s1 ++ t1)) = 0 := by rw [bl_app, err_append _ _ e1, e2]
      refine utf8Order_good s t s1 t1 w hT hs ht h1 h2 z1 z2 e1 e2 _ _ rfl rfl (by omega) (by omega) ?_ ?_ ⟨?_, e3⟩ _ rfl ?_
      · show _ = _; unfold cntZ; rw [if_pos e1]
      · show _ = _; unfold cntZ; rw [if_pos e2]
      · unfold cntZ; rw [if_pos e3, bl_app, run_append _ _ e1, List.length_append]; omega
      · show _ = _; rw [bl_toList, bl_toList, less_eq, order _ _ e1 e2]
    · exact utf8Order_bad s t s1 t1 w hT hs ht h1 h2 z1 z2 (.inr ⟨(by simpa using e1 : (errOf (bl s1) == 0) = true), (by simpa using e2 : (errOf (bl t1) == 0) = false)⟩)
  · exact utf8Order_bad s t s1 t1 w hT hs ht h1 h2 z1 z2 (.inl (by simpa using e1 : (errOf (bl s1) == 0) = false))
end Go.Proofs.YtalommgkigacpaaDoor

/- Commands compared and checked: slices.Equal at authors, increasing, checkText, Equal. -/
import Derived.Test.YtcdcmohccbhchaaGreatDoorKW1
namespace Go.Proofs.YtcdcmohccbhchaaGreatDoor
open Go.RowKit

/-- What is read of a command that lies in a block. -/
theorem cm_facts {W : World} {b : Nat} {c : Cm} {v : Value} {t : TypeId} (h : W.heap[b]? = some (.cells (cmC c v).toArray t (0, 0))) :
    W.cell? ⟨b, 0, none⟩ = some (.int .i64 c.kind) ∧ W.cell? ⟨b, 33, none⟩ = some (.string c.group) ∧ W.cell? ⟨b, 34, none⟩ = some (.int .i64 c.version) ∧ W.cell? ⟨b, 35, none⟩ = some (.bool c.moderated) ∧ W.cell? ⟨b, 36, none⟩ = some v ∧
    W.cell? ⟨b, 37, none⟩ = some (.string c.text) ∧ W.cell? ⟨b, 38, none⟩ = some (.int .i64 c.number) ∧ W.cell? ⟨b, 39, none⟩ = some (.int .i64 c.height) ∧ hasRow W ⟨b, 1, none⟩ 32 = true ∧ rowAt W ⟨b, 1, none⟩ 32 = bC c.target ∧ hasRow W ⟨b, 39, none⟩ 17 = true ∧ rowAt W ⟨b, 39, none⟩ 17 = pubC c.height c.root ∧
    hasRow W ⟨b, 40, none⟩ 16 = true ∧ rowAt W ⟨b, 40, none⟩ 16 = bC c.root ∧ hasRow W ⟨b, 0, none⟩ 56 = true ∧ rowAt W ⟨b, 0, none⟩ 56 = cmC c v ∧ b < W.heap.size :=
  ⟨(cell_block h 0).trans (cm_kind c v), (cell_block h 33).trans (cm_group c v), (cell_block h 34).trans (cm_version c v), (cell_block h 35).trans (cm_moderated c v), (cell_block h 36).trans (cm_mods c v), (cell_block h 37).trans (cm_text c v), (cell_block h 38).trans (cm_number c v), (cell_block h 39).trans (cm_height c v),
    hasRow_block h 1 32 (by rw [cmC_length]; decide), (rowAt_block h 1 32 (by rw [cmC_length]; decide)).trans (cm_target c v), hasRow_block h 39 17 (by rw [cmC_length]; decide), (rowAt_block h 39 17 (by rw [cmC_length]; decide)).trans (cm_pub c v),
    hasRow_block h 40 16 (by rw [cmC_length]; decide), (rowAt_block h 40 16 (by rw [cmC_length]; decide)).trans (cm_root c v), hasRow_block h 0 56 (by rw [cmC_length]; decide), (rowAt_block h 0 56 (by rw [cmC_length]; decide)).trans (cm_whole c v), (Array.getElem?_eq_some_iff.1 h).1⟩

/-! ### slices.Equal at authors -/
theorem takeEq_succ {α : Type} {a b : List α} {k : Nat} (ha : k < a.length) (hb : k < b.length) (h : a.take k = b.take k) (e : a[k] = b[k]) : a.take (k + 1) = b.take (k + 1) := by
  rw [List.take_succ_eq_append_getElem ha, List.take_succ_eq_append_getElem hb, h, e]
set_option maxRecDepth 100000 in
set_option maxHeartbeats 2000000 in
theorem eqAutsC (a b : List Aut) (va vb : Value) (w : World) (ha : AutsAt w va a) (hb : AutsAt w vb b) (hl : a.length ≤ 1000000) :
    Calls Tryz.prog 56 #[va, vb] w fun e w' => e = .returned (.bool (decide (a = b))) ∧ Gr w w' := by
  obtain ⟨aa, ca, rfl, hca, hja⟩ := ha
  obtain ⟨ab, cb, rfl, hcb, hjb⟩ := hb
  simp only [List.length_map] at hca hcb
  have e1 : (a.map bC).length = a.length := by simp
  have e2 : (b.map bC).length = b.length := by simp
  rw [e1, e2]
  have HA := Lib.hid hja; have HB := Lib.hid hjb
  clear hja hjb e1 e2
  by_cases hlen : a.length = b.length
  · have HL := Lib.hid hlen
    have hbl : ∀ k, k < a.length → k < b.length := fun k hk => hlen ▸ hk
    have HBL := Lib.hid hbl
    rw [← hlen]
    clear hlen hbl
    go_enter Tryz.func56, Tryz.ntmps56
    go_wp2_with fail
    go_loopw [5, 13, 14, 15, 16, 17, 18, 19, 20, 21, 22, 23, 24, 25] (fun _ i _ _ _ _ _ _ _ _ _ _ _ _ wr => ∃ k : Nat, k ≤ a.length ∧ i = .int .i64 k ∧ Hid (a.take k = b.take k) ∧ ∃ q, wr = w.drewN q) (fun _ i _ _ _ _ _ _ _ _ _ _ _ _ _ => a.length - (intOf i).toNat)
    case atStart => exact ⟨0, Nat.zero_le _, rfl, rfl, 0, rfl⟩
    case round =>
      obtain ⟨k, hk, rfl, hh, q, rfl⟩ := hrel
      by_cases hlt : k < a.length
      · have hltb := HBL.out k hlt
        obtain ⟨b1, o1, rfl, z1, h1, h2⟩ := HA.out k (by simpa using hlt)
        obtain ⟨b2, o2, rfl, z2, h3, h4⟩ := HB.out k (by simpa using hltb)
        rw [List.getElem_map] at h2 h4
        have hk1 : (k : Int) < (a.length : Int) := by omega
        have hk2 : (0 : Int) ≤ (k : Int) := by omega
        have HS := Lib.hid (fun e => takeEq_succ hlt hltb hh.out e)
        have HNE : Hid (a[k] ≠ b[k] → a ≠ b) := fun hne e => hne (by subst e; rfl)
        generalize a[k] = x at *
        generalize b[k] = y at *
        cases hx : (x == y) with
        | true =>
          have HX : Hid (x = y) := by show x = y; simpa using hx
          go_wp2_with fail
          go_quiet (fail)
          go_wp2_with fail
          go_roundw
          case rel => exact ⟨k + 1, by omega, by go_num, HS.out HX.out, _, rfl⟩
          case measure => simp [intOf]; omega
        | false =>
          have HX : Hid (x ≠ y) := by show x ≠ y; simpa using hx
          go_wp2_with fail
          go_quiet (fail)
          go_wp2_with fail
          go_ret
          exact ⟨ret_bool (by simp [HNE.out HX.out]), ((Gr.refl w).drewN _).drewN _⟩
      · go_wp2_with fail
        go_ret
        refine ⟨ret_bool ?_, (Gr.refl w).drewN _⟩
        have := hh.out
        rw [List.take_of_length_le (by omega), List.take_of_length_le (by rw [← HL.out]; omega)] at this
        simp [this]
  · have hne : ((a.length : Int) != (b.length : Int)) = true := by simp; omega
    have hne2 : ¬ a = b := fun e => hlen (by rw [e])
    have HN := Lib.hid hne2
    clear hlen hne2
    go_enter Tryz.func56, Tryz.ntmps56
    go_wp2_with fail
    go_ret
    exact ⟨ret_bool (by simp [HN.out]), Gr.refl w⟩

/-! ### increasing -/
theorem incA_snoc : ∀ (l : List Aut) (a b : Aut), incA (l ++ [a, b]) = (incA (l ++ [a]) && decide (Lib.compareBytes a.toList b.toList < 0))
  | [], a, b => by simp [incA]
  | [x], a, b => by simp [incA]
  | x :: y :: l, a, b => by
    have := incA_snoc (y :: l) a b
    simp only [List.cons_append] at this ⊢
    rw [incA, this, incA, Bool.and_assoc]
theorem incA_app : ∀ (a b : List Aut), incA (a ++ b) = true → incA a = true
  | [], _, _ => rfl
  | [_], _, _ => rfl
  | x :: y :: a, b, h => by
    simp only [List.cons_append, incA, Bool.and_eq_true] at h ⊢
    exact ⟨h.1, incA_app (y :: a) b h.2⟩
theorem incA_succ (l : List Aut) (k : Nat) (h1 : 1 ≤ k) (h2 : k < l.length) : incA (l.take (k + 1)) = (incA (l.take k) && decide (Lib.compareBytes l[k - 1].toList l[k].toList < 0)) := by
  obtain ⟨j, rfl⟩ := Nat.exists_eq_add_of_le' h1
  have e2 : l.take (j + 1 + 1) = l.take j ++ [l[j], l[j + 1]] := by
    rw [List.take_succ_eq_append_getElem h2, List.take_succ_eq_append_getElem (by omega : j < l.length), List.append_assoc]; rfl
  have e1 : l.take (j + 1) = l.take j ++ [l[j]] := List.take_succ_eq_append_getElem (by omega)
  rw [e2, e1, incA_snoc]; rfl
theorem incA_stop (l : List Aut) (k : Nat) (h : incA (l.take k) = false) : incA l = false := by
  cases hl : incA l with
  | false => rfl
  | true => rw [← List.take_append_drop k l] at hl; rw [incA_app _ _ hl] at h; cases h
theorem bytesAt_row {w : World} {b k : Nat} {n : Nat} {x : Vector UInt8 n} (h1 : hasRow w ⟨b, k, none⟩ n = true) (h2 : rowAt w ⟨b, k, none⟩ n = bC x) : BytesAt w b k x.toList := by
  intro j hj
  have hj' : j < n := by simpa using hj
  have e := congrArg (fun l => l[j]?) h2
  simp only [rowAt, List.getElem?_map, List.getElem?_range hj', Option.map_some, Addr.add_lit] at e
  obtain ⟨v, hv⟩ := Option.isSome_iff_exists.1 (hasRow_iff.1 h1 j hj')
  rw [Addr.add_lit] at hv
  rw [hv] at e ⊢
  simp only [Option.getD_some] at e
  rw [e]
  simp [bC, hj']
set_option maxRecDepth 100000 in
set_option maxHeartbeats 2000000 in
theorem incC (l : List Aut) (v : Value) (w : World) (hv : AutsAt w v l) (hl : l.length ≤ 1000000) :
    Calls Tryz.prog 72 #[v] w fun e w' => e = .returned (.bool (incA l)) ∧ Gr w w' := by
  obtain ⟨a, cap, rfl, hc, hj⟩ := hv
  have e1 : (l.map bC).length = l.length := by simp
  rw [e1] at hc ⊢
  have HJ := Lib.hid hj
  clear hj e1
  go_enter Tryz.func72, Tryz.ntmps72
  go_wp2_with fail
  go_loopw [3, 4, 5, 6, 7, 8, 9, 10, 11, 12, 13, 14, 15, 16, 17, 18, 19, 20] (fun i _ _ _ _ _ _ _ _ _ _ _ _ _ _ _ _ _ wr => ∃ k : Nat, k ≤ l.length ∧ i = .int .i64 ((k : Int) + 1) ∧ Hid (incA (l.take (k + 1)) = true) ∧ ∃ q, wr = w.drewN q) (fun i _ _ _ _ _ _ _ _ _ _ _ _ _ _ _ _ _ _ => l.length + 1 - (intOf i).toNat)
  case atStart => exact ⟨0, Nat.zero_le _, rfl, by cases l <;> rfl, 0, rfl⟩
  case round =>
    obtain ⟨k, hk, rfl, hh, q, rfl⟩ := hrel
    by_cases hlt : k + 1 < l.length
    · have hlt0 : k < l.length := by omega
      obtain ⟨b1, o1, hb1, z1, r1, r2⟩ := HJ.out k (by simpa using hlt0)
      obtain ⟨b2, o2, hb2, z2, r3, r4⟩ := HJ.out (k + 1) (by simpa using hlt)
      subst hb1
      injection hb2 with hb2
      injection hb2 with q1 q2
      subst q1; subst q2
      rw [List.getElem_map] at r2 r4
      have HS : Hid (incA (l.take (k + 1 + 1)) = (incA (l.take (k + 1)) && decide (Lib.compareBytes l[k].toList l[k + 1].toList < 0))) := incA_succ l (k + 1) (by omega) hlt
      have HST : Hid (incA (l.take (k + 1 + 1)) = false → incA l = false) := incA_stop l (k + 1 + 1)
      have HC := Lib.hid (fun n => bytesCompare b1 (o1 + k * 16) 16 b1 (o1 + (k + 1) * 16) 16 l[k].toList l[k + 1].toList ((w.drewN q).drewN n) (bytesAt_row (x := l[k]) r1 r2) (bytesAt_row (x := l[k + 1]) r3 r4))
      simp only [toList_len] at HC
      have hk1 : (k : Int) + 1 < (l.length : Int) := by omega
      have hk2 : (0 : Int) ≤ (k : Int) + 1 := by omega
      have hk3 : (k : Int) < (l.length : Int) := by omega
      have hk4 : (0 : Int) ≤ (k : Int) := by omega
      have hw : IntKind.i64.wrap (k : Int) = (k : Int) := by rw [IntKind.wrap_i64]; omega
      clear r1 r2 r3 r4
      generalize hU : w.drewN q = U at *
      have HU := Lib.hid hU
      clear hU
      cases hx : decide (0 ≤ Lib.compareBytes l[k].toList l[k + 1].toList) with
      | true =>
        have HX : Hid (incA l = false) := HST.out (by rw [HS.out]; simp at hx; simp; omega)
        clear HS HST
        generalize Lib.compareBytes l[k].toList l[k + 1].toList = r at *
        go_wp2_with fail
        go_quiet ((go_at_call 104; exact still_call (HC.out _)))
        go_wp2_with fail
        go_ret
        exact ⟨ret_bool HX.out.symm, by rw [← HU.out]; exact ((Gr.refl w).drewN _).drewN _⟩
      | false =>
        have HX : Hid (incA (l.take (k + 1 + 1)) = true) := by show _ = _; rw [HS.out, hh.out]; simp at hx; simp; omega
        clear HS HST
        generalize Lib.compareBytes l[k].toList l[k + 1].toList = r at *
        go_wp2_with fail
        go_quiet ((go_at_call 104; exact still_call (HC.out _)))
        go_wp2_with fail
        go_roundw
        case rel => exact ⟨k + 1, by omega, by go_num, HX.out, _, by rw [← HU.out, World.drewN_drewN]⟩
        case measure => simp [intOf]; omega
    · have hk1 : ¬ (k : Int) + 1 < (l.length : Int) := by omega
      go_wp2_with fail
      go_ret
      refine ⟨ret_bool ?_, (Gr.refl w).drewN _⟩
      have := hh.out
      rw [List.take_of_length_le (by omega)] at this
      exact this.symm
end Go.Proofs.YtcdcmohccbhchaaGreatDoor

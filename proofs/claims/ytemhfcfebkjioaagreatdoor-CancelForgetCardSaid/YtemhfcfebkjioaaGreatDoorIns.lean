/- The statement's insert: what it returns. -/
import Derived.Test.YtemhfcfebkjioaaGreatDoorWdr
import Derived.Deep.RegionHeld3
import Derived.Deep.RegionHeldLaw
namespace Go.Proofs.YtemhfcfebkjioaaGreatDoor
open Go.RowKit

/-- As InsPost; and where the slice lies: where it lay, or in a new block. -/
def InsPostF (l : List Id) (x : Id) (v : Value) (w : World) (e : Ending) (w' : World) : Prop := ∃ k a n c, PlaceOf l x k ∧ e = .returned (.slice a n c) ∧ IdsAt w' (.slice a n c) (insAt l x k) ∧ Gr w w' ∧ ∀ q, a = some q → w.heap.size ≤ q.block ∨ ∃ n0 c0, v = .slice (some q) n0 c0
def InsPost (l : List Id) (x : Id) (w : World) (e : Ending) (w' : World) : Prop := ∃ k a n c, PlaceOf l x k ∧ e = .returned (.slice a n c) ∧ IdsAt w' (.slice a n c) (insAt l x k) ∧ Gr w w'

theorem ids_one (l : List Id) : ∀ r ∈ l.map bC, oneB r = true := by
  intro r hr; obtain ⟨x, _, rfl⟩ := List.mem_map.1 hr; exact oneB_bC x
theorem one_len (x : Id) : ∀ r ∈ [bC x], r.length = 32 := by simp [bC_length]
theorem one_one (x : Id) : ∀ r ∈ [bC x], oneB r = true := by simp [oneB_bC]
theorem owns_emptyD (w : World) (base : Nat) (e : TypeId) (size : Nat) (hb : base ≤ w.heap.size) : (w.alloc (.cells #[] e)).drew.ownsRow base e size (.slice (some ⟨w.heap.size, 0, none⟩) 0 0) 0 [] :=
  ⟨by simp, .inr ⟨w.heap.size, 0, #[], rfl, hb, heap_alloc_new w _, Nat.le_refl _, Nat.zero_le _, by simp, by simp⟩⟩
theorem step_append_sl {P : Program} {ops : Array Oper} {o : Oper} {a : Act} {w : World} {K : Act → World → Prop} {Q : Exit → Act → World → Prop} {E : Prop}
    (hg : o.guard = none) (d : Nat) (hd : o.dst = some d) (s x : Operand) (t : TypeId) (hop : o.op = Op.call { callee := Callee.builtin Builtin.append, args := #[s, x], argTypes := #[t, t] })
    (base : Nat) (e : TypeId) (i : TypeInfo) (z : Value) (size bytes : Nat) (ht : P.underlying t = some (.slice e)) (hi : P.info? e = some i) (hz : i.zero = some z) (hsize : i.size = size) (hby : i.bytes = bytes) (hzs : z.cells.size = size) (hsz : 0 < size)
    (v : Value) (n : Nat) (xs : List Value) (hs : a.eval s = v) (hown : w.ownsRow base e size v n xs) (sv : Value) (rows : List (List Value)) (hx : a.eval x = sv) (hsl : SlAt w sv size rows) (hr : ∀ r ∈ rows, r.length = size) (h1 : ∀ r ∈ rows, oneB r = true) (N : Nat) (hN : n + rows.length = N) (h63 : N ≤ 1000000) (hb : bytes ≤ 1000) (hbase : base ≤ w.heap.size)
    (hK : ∀ a' c' w', w'.ownsRow base e size (.slice a' N c') N (xs ++ rows.flatten) → w.grownBy w' v.ownBlock → K (a.put (some d) (.slice a' N c')) w') :
    if Region.wanted o (yielded ops a.tmps) = true then Oper.wp P o a w K Q else E := by
  subst hN
  have hw : Region.wanted o (yielded ops a.tmps) = true := by simp [Region.wanted, hg]
  rw [if_pos hw]
  obtain ⟨a', c', w', hrun, h2, h3, _⟩ := run_append_sl (P := P) w base t o.type e i z size bytes ht hi hz hsize hby hzs hsz v n xs hown sv rows hsl hr h1 h63 hb hbase
  unfold Oper.wp
  simp [execOp, hop, resolve, invoke, builtin, hs, hx, hrun, Result.andThen]
  show K (a.put o.dst _) w'
  rw [hd]; exact hK a' c' w' h2 h3
set_option maxRecDepth 100000 in
set_option maxHeartbeats 4000000 in
theorem insertF (l : List Id) (v : Value) (x : Id) (w : World) (hv : IdsAt w v l) (hl : l.length ≤ 100000) :
    Calls Tryz.prog 19 #[v, .agg (bC x).toArray] w (InsPostF l x v w) := by
  have HV := Lib.hid hv
  obtain ⟨av, cap, rfl, hc, hj⟩ := hv
  simp only [List.length_map] at hc
  have e1 : (l.map bC).length = l.length := by simp
  rw [e1] at HV ⊢
  obtain ⟨y0, yinfo, yzs⟩ := infoId
  obtain ⟨j0, hj0, hy0, hy1, hy2⟩ := info_parts yinfo
  have HY := Lib.hid yzs; have HJ0 := Lib.hid hj0
  clear yinfo yzs hj0
  have HJ := Lib.hid hj
  have HB := Lib.hid (heap_alloc_new w (.cells (bC x).toArray 23))
  clear hj e1
  go_enter Tryz.func19, Tryz.ntmps19
  go_wp2_with fail
  go_loopw [5, 6, 7, 8, 9, 10, 11, 12, 13, 14, 15, 16, 17, 18, 19] (fun i _ _ _ _ _ _ _ _ _ _ _ _ _ _ wr => ∃ k : Nat, k ≤ l.length ∧ i = .int .i64 k ∧ Hid (∀ j (h : j < l.length), j < k → nm l[j] < nm x) ∧ Hid (Gr w wr) ∧ Hid (wr.heap[w.heap.size]? = some (.cells (bC x).toArray 23 (0, 0)))) (fun i _ _ _ _ _ _ _ _ _ _ _ _ _ _ _ => l.length - (intOf i).toNat)
  case atStart => exact ⟨0, Nat.zero_le _, rfl, fun j _ h => absurd h (by omega), (Gr.refl w).alloc _, HB.out⟩
  case round =>
    obtain ⟨k, hk, rfl, hlow, hG, hB⟩ := hrel
    have r1 := hasRow_block hB.out 0 32 (by rw [bC_length]; decide)
    have r2 := (rowAt_block hB.out 0 32 (by rw [bC_length]; decide)).trans (rowOf_all _ _ (bC_length x))
    have hzb : w.heap.size < wr.heap.size := (Array.getElem?_eq_some_iff.1 hB.out).1
    by_cases hlt : k < l.length
    · obtain ⟨b, o, rfl, hb, q1, q2⟩ := HJ.out k (by simpa using hlt)
      have u1 := (hG.out.hasRow hb).trans q1
      have u2 := (hG.out.rowAt hb).trans q2
      rw [List.getElem_map] at u2
      have hbw : b < wr.heap.size := Nat.lt_of_lt_of_le hb hG.out.size
      have hk1 : (k : Int) < (l.length : Int) := by omega
      have hk2 : (0 : Int) ≤ (k : Int) := by omega
      have HGET : Hid (l[k]? = some l[k]) := List.getElem?_eq_getElem hlt
      have HLK : Hid (∀ h : k < l.length, l[k] = l[k]) := fun _ => rfl
      clear q1 q2
      have HPL : Hid (nm x ≤ nm l[k] → PlaceOf l x k) := fun h => ⟨hk, hlow.out, fun _ => h⟩
      have HLW : Hid (nm l[k] < nm x → ∀ j (h : j < l.length), j < k + 1 → nm l[j] < nm x) := fun h j hj hjk => by
        by_cases e : j = k
        · subst e; exact h
        · exact hlow.out j hj (by omega)
      generalize l[k] = y at *
      have HLS : Hid (∀ p : GD, Calls Tryz.prog 44 #[.agg (bC y).toArray, .agg (bC x).toArray] (gw wr p) fun e w'' => e = .returned (.bool (lessB y x)) ∧ ∃ q : GD, w'' = gw wr q) := fun p => gr_call ((lessC y x _).mono fun _ _ h => ⟨h.1, h.2.1⟩)
      have hlb := lessB_num y x
      cases hb2 : lessB y x with
      | true =>
        rw [hb2] at HLS hlb
        have HLT : Hid (nm y < nm x) := by show nm y < nm x; simpa using hlb.symm
        clear hlb hb2
        go_wp2_with fail
        refine wp_region_gr (by kernel_rfl) (by kernel_rfl) ?_
        repeat (go_big_quiet_step ((go_at_call 44; with_reducible exact HLS.out _)))
        refine wpQuiet_nil ?_
        rintro _ ⟨p, rfl⟩
        have HU := Lib.hid (gr_gw wr p)
        have hp := Lib.hid (hG.out.trans (gr_gw wr p))
        generalize gw wr p = U at *
        go_wp2_with fail
        go_roundw
        case rel => exact ⟨k + 1, by omega, by go_num, HLW.out HLT.out, hp.out, (HU.out.block hzb).trans hB.out⟩
        case measure => simp [intOf]; omega
      | false =>
        rw [hb2] at HLS hlb
        have HLT : Hid (nm x ≤ nm y) := by show nm x ≤ nm y; simp at hlb; exact hlb
        clear hlb hb2
        go_wp2_with fail
        refine wp_region_gr (by kernel_rfl) (by kernel_rfl) ?_
        repeat (go_big_quiet_step ((go_at_call 44; with_reducible exact HLS.out _)))
        refine wpQuiet_nil ?_
        rintro _ ⟨p, rfl⟩
        have HU := Lib.hid (gr_gw wr p)
        have hp := Lib.hid (hG.out.trans (gr_gw wr p))
        have r1 := (HU.out.hasRow hzb).trans r1
        have r2 := (HU.out.rowAt hzb).trans r2
        have u1 := (HU.out.hasRow hbw).trans u1
        have u2 := (HU.out.rowAt hbw).trans u2
        have hB2 := Lib.hid ((HU.out.block hzb).trans hB.out)
        generalize gw wr p = U at *
        cases hyx : (y == x) with
        | true =>
          have HY : Hid (y = x) := by show y = x; simpa using hyx
          go_wp2_with fail
          go_quiet (fail)
          go_wp2_with fail
          go_ret
          refine ⟨k, _, _, _, HPL.out HLT.out, rfl, ?_, hp.out.drewN _, fun q hq => .inr ⟨_, _, by rw [← hq]⟩⟩
          have e : insAt l x k = l := by unfold insAt; rw [if_pos (by rw [HGET.out, HY.out])]
          rw [e]
          exact HV.out.gr (hp.out.drewN _)
        | false =>
          have HYX : Hid (y ≠ x) := by show y ≠ x; simpa using hyx
          have hzU : w.heap.size < U.heap.size := (Array.getElem?_eq_some_iff.1 hB2.out).1
          go_wp2_with fail
          go_quiet (fail)
          go_wp2_with fail
          have r1' := (hasRow_drewN U nq ⟨w.heap.size, 0, none⟩ 32).trans r1
          have r2' := (rowAt_drewN U nq ⟨w.heap.size, 0, none⟩ 32).trans r2
          have GV := Lib.hid (hp.out.drewN nq)
          have SLV := SlAt.gr HV.out GV.out
          have hzV : w.heap.size < (U.drewN nq).heap.size := by simpa using hzU
          clear r1 r2
          generalize U.drewN nq = V at *
          have slA : SlAt V (.slice (some ⟨b, o, none⟩) k cap) 32 ((l.take k).map bC) := by rw [List.map_take]; exact SlAt.take SLV k (by rw [List.length_map]; omega)
          have slB : SlAt V (.slice (some ⟨b, o + k * 32, none⟩) (l.length - k) (cap - k)) 32 ((l.drop k).map bC) := by rw [List.map_drop]; exact SlAt.drop SLV k (by rw [List.length_map]; omega) (cap - k) (by rw [List.length_map]; omega)
          have n1 : (k : Int) ≤ (cap : Int) := by omega
          have n2 : k < cap := by omega
          have n3 : (k : Int) ≤ (l.length : Int) := by omega
          have HPLC := Lib.hid (HPL.out HLT.out)
          have HINS : Hid (insAt l x k = l.take k ++ x :: l.drop k) := by show _ = _; unfold insAt; rw [if_neg]; rw [HGET.out]; intro q; exact HYX.out (Option.some.inj q)
          have KS : Hid (∀ W, Gr V W → W.rangeAt w.heap.size 0 (bC x)) := fun W hW => range_of_row ((hW.hasRow hzV).trans r1') ((hW.rowAt hzV).trans r2')
          have GG1 := Lib.hid ((Gr.refl V).alloc (.cells #[] 23)).drew
          have GG2 := Lib.hid (((Gr.refl V).alloc (.cells #[] 23)).alloc (.cells (bC x).toArray 23)).drew
          have GG3 := Lib.hid (((Gr.refl V).alloc (.cells (bC x).toArray 23)).alloc (.cells #[] 23)).drew
          have OW1 := Lib.hid (owns_emptyD V V.heap.size 23 32 (Nat.le_refl _))
          have OW2 : Hid (((V.alloc (.cells #[] 23)).alloc (.cells (bC x).toArray 23)).drew.ownsRow V.heap.size 23 32 (.slice (some ⟨V.heap.size, 0, none⟩) 0 0) 0 []) := (owns_emptyD V V.heap.size 23 32 (Nat.le_refl _)).alloc (.cells (bC x).toArray 23)
          have OW3 : Hid (((V.alloc (.cells (bC x).toArray 23)).alloc (.cells #[] 23)).drew.ownsRow V.heap.size 23 32 (.slice (some ⟨V.heap.size + 1, 0, none⟩) 0 0) 0 []) := by have := owns_emptyD (V.alloc (.cells (bC x).toArray 23)) V.heap.size 23 32 (by simp); rwa [World.size_alloc] at this
          have SLA1 := Lib.hid (SlAt.gr slA GG1.out); have SLA2 := Lib.hid (SlAt.gr slA GG2.out); have SLA3 := Lib.hid (SlAt.gr slA GG3.out)
          have SLB := Lib.hid slB
          have HN1 : Hid (0 + ((l.take k).map bC).length = k) := by show _ = _; simp; omega
          have HN3 : Hid (k + 1 + ((l.drop k).map bC).length = l.length + 1) := by show _ = _; simp; omega
          have hg0 := (Gr.refl V).drew
          have hg0' := fun o => ((Gr.refl V).alloc o).drew
          have hg0'' := fun o o' => (((Gr.refl V).alloc o).alloc o').drew
          have hu23 := Tryz.underlying23
          have hi23 : (Tryz.prog.info? 23).map (·.size) = some (bC x).length := by rw [bC_length]; kernel_rfl
          clear slA slB SLV r1' r2'
          go_region_held_law (fun u => u.rangeAt w.heap.size 0 (bC x)) (first | exact KS.out _ hg0 | exact KS.out _ (hg0' _) | exact KS.out _ (hg0'' _ _) | exact KS.out _ GW1 | exact KS.out _ (GW1.alloc _) | exact KS.out _ GW2 | exact KS.out _ GW3) (first | (refine step_append_sl rfl 37 rfl (.tmp 33) (.tmp 36) 29 rfl V.heap.size 23 j0 y0 32 32 Tryz.underlying29 HJ0.out hy0 hy1 hy2 HY.out (by decide) (.slice (some ⟨V.heap.size, 0, none⟩) 0 0) 0 [] (by simp [Act.eval]) OW1.out (.slice (some ⟨b, o, none⟩) k cap) ((l.take k).map bC) (by simp [Act.eval]) SLA1.out (map_bC_len _) (ids_one _) k HN1.out (by omega) (by decide) (by simp <;> omega) ?_; intro a1 c1 w1 ho1 hg1; have GW1 := GG1.out.grown hg1 (fun k' hk' => by cases hk'; exact Nat.le_refl _)) | (refine step_append_sl rfl 37 rfl (.tmp 33) (.tmp 36) 29 rfl V.heap.size 23 j0 y0 32 32 Tryz.underlying29 HJ0.out hy0 hy1 hy2 HY.out (by decide) (.slice (some ⟨V.heap.size, 0, none⟩) 0 0) 0 [] (by simp [Act.eval]) OW2.out (.slice (some ⟨b, o, none⟩) k cap) ((l.take k).map bC) (by simp [Act.eval]) SLA2.out (map_bC_len _) (ids_one _) k HN1.out (by omega) (by decide) (by simp <;> omega) ?_; intro a1 c1 w1 ho1 hg1; have GW1 := GG2.out.grown hg1 (fun k' hk' => by cases hk'; exact Nat.le_refl _); have hbb := one_row ((hg1.block (V.heap.size + 1) (by simp) (by simp [Value.ownBlock])).trans (heap_new (V.alloc (.cells #[] 23)) (.cells (bC x).toArray 23) (V.heap.size + 1) (by simp))) (bC_length x)) | (refine step_append_sl rfl 37 rfl (.tmp 33) (.tmp 36) 29 rfl V.heap.size 23 j0 y0 32 32 Tryz.underlying29 HJ0.out hy0 hy1 hy2 HY.out (by decide) (.slice (some ⟨V.heap.size + 1, 0, none⟩) 0 0) 0 [] (by simp [Act.eval]) OW3.out (.slice (some ⟨b, o, none⟩) k cap) ((l.take k).map bC) (by simp [Act.eval]) SLA3.out (map_bC_len _) (ids_one _) k HN1.out (by omega) (by decide) (by simp <;> omega) ?_; intro a1 c1 w1 ho1 hg1; have GW1 := GG3.out.grown hg1 (fun k' hk' => by cases hk'; exact Nat.le_succ _); have hbb := one_row ((hg1.block V.heap.size (by simp <;> omega) (by simp [Value.ownBlock])).trans ((((Gr.refl _).alloc (.cells #[] 23)).block (by simp)).trans (heap_alloc_new V (.cells (bC x).toArray 23)))) (bC_length x)) | (refine step_append_sl rfl 40 rfl (.tmp 37) (.tmp 39) 29 rfl V.heap.size 23 j0 y0 32 32 Tryz.underlying29 HJ0.out hy0 hy1 hy2 HY.out (by decide) (.slice a1 k c1) k _ (by simp [Act.eval, Act.put]) ho1 _ [bC x] (by simp [Act.eval, Act.put]) hbb (one_len x) (one_one x) (k + 1) rfl (by omega) (by decide) (by have := GW1.size; simp <;> omega) ?_; intro a2 c2 w2 ho2 hg2; have GW2 : Gr V w2 := (by first | exact GW1.grown hg2 (fun k' hk' => (ho1.lt k' hk').1) | exact (GW1.alloc _).grown hg2 (fun k' hk' => (ho1.lt k' hk').1))) | (refine step_append_sl rfl 40 rfl (.tmp 37) (.tmp 39) 29 rfl V.heap.size 23 j0 y0 32 32 Tryz.underlying29 HJ0.out hy0 hy1 hy2 HY.out (by decide) (.slice a1 k c1) k _ (by simp [Act.eval]) (ho1.alloc _) _ [bC x] (by simp [Act.eval]) (one_row (heap_alloc_new w1 _) (bC_length x)) (one_len x) (one_one x) (k + 1) rfl (by omega) (by decide) (by have := GW1.size; simp <;> omega) ?_; intro a2 c2 w2 ho2 hg2; have GW2 : Gr V w2 := (by first | exact GW1.grown hg2 (fun k' hk' => (ho1.lt k' hk').1) | exact (GW1.alloc _).grown hg2 (fun k' hk' => (ho1.lt k' hk').1))) | (refine step_append_sl rfl 44 rfl (.tmp 40) (.tmp 43) 29 rfl V.heap.size 23 j0 y0 32 32 Tryz.underlying29 HJ0.out hy0 hy1 hy2 HY.out (by decide) (.slice a2 (k + 1) c2) (k + 1) _ (by simp [Act.eval, Act.put]) ho2 (.slice (some ⟨b, o + k * 32, none⟩) (l.length - k) (cap - k)) ((l.drop k).map bC) (by simp [Act.eval, Act.put] <;> omega) (SlAt.gr SLB.out GW2) (map_bC_len _) (ids_one _) (l.length + 1) HN3.out (by omega) (by decide) GW2.size ?_; intro a3 c3 w3 ho3 hg3; have GW3 := GW2.grown hg3 (fun k' hk' => (ho2.lt k' hk').1)))
          all_goals
            go_wp2_with fail
            go_ret
            refine ⟨k, _, _, _, HPLC.out, rfl, ?_, GV.out.trans GW3, fun q hq => .inl (Nat.le_trans GV.out.size (ho3.lt q.block (by rw [hq]; rfl)).1)⟩
            rw [HINS.out]
            exact slAt_of_owns (map_bC_len (l.take k ++ x :: l.drop k)) (by have e : (l.take k ++ x :: l.drop k).length = l.length + 1 := by simp; omega
                                                                            rw [List.length_map, e]; simpa using ho3)
    · have hke : k = l.length := by omega
      have hdk : decide ((k : Int) < (l.length : Int)) = false := by simp; omega
      have HPL0 : Hid (PlaceOf l x k) := ⟨hk, hlow.out, fun h => absurd h (by omega)⟩
      have HINS0 : Hid (insAt l x k = l.take k ++ x :: l.drop k) := by show _ = _; unfold insAt; rw [if_neg (by rw [List.getElem?_eq_none (by omega)]; simp)]
      clear hke
      rcases av with _ | ad
      · have hnn : k ≤ l.length := hk
        go_wp2_with fail
        go_quiet (fail)
        have hp := Lib.hid (hG.out.drewN nq)
        have r1 := (hasRow_drewN wr nq ⟨w.heap.size, 0, none⟩ 32).trans r1
        have r2 := (rowAt_drewN wr nq ⟨w.heap.size, 0, none⟩ 32).trans r2
        have hzU : w.heap.size < (wr.drewN nq).heap.size := by simpa using hzb
        generalize wr.drewN nq = U at *
        go_wp2_with fail
        go_quiet (fail)
        go_wp2_with fail
        have r1' := (hasRow_drewN U nq ⟨w.heap.size, 0, none⟩ 32).trans r1
        have r2' := (rowAt_drewN U nq ⟨w.heap.size, 0, none⟩ 32).trans r2
        have GV := Lib.hid (hp.out.drewN nq)
        have SLV := SlAt.gr HV.out GV.out
        have hzV : w.heap.size < (U.drewN nq).heap.size := by simpa using hzU
        clear r1 r2
        generalize U.drewN nq = V at *
        have slA : SlAt V (.slice none k cap) 32 ((l.take k).map bC) := by rw [List.map_take]; exact SlAt.take SLV k (by rw [List.length_map]; omega)
        have slB : SlAt V (.slice none (l.length - k) (cap - k)) 32 ((l.drop k).map bC) := by
          rw [show l.drop k = [] from List.drop_of_length_le (by omega), show l.length - k = 0 by omega]; exact slAt_none _ _ _ _
        have n1 : (k : Int) ≤ (cap : Int) := by omega
        have n3 : (k : Int) ≤ (l.length : Int) := by omega
        have HPLC := HPL0
        have HINS := HINS0
        have KS : Hid (∀ W, Gr V W → W.rangeAt w.heap.size 0 (bC x)) := fun W hW => range_of_row ((hW.hasRow hzV).trans r1') ((hW.rowAt hzV).trans r2')
        have GG1 := Lib.hid ((Gr.refl V).alloc (.cells #[] 23)).drew
        have GG2 := Lib.hid (((Gr.refl V).alloc (.cells #[] 23)).alloc (.cells (bC x).toArray 23)).drew
        have GG3 := Lib.hid (((Gr.refl V).alloc (.cells (bC x).toArray 23)).alloc (.cells #[] 23)).drew
        have OW1 := Lib.hid (owns_emptyD V V.heap.size 23 32 (Nat.le_refl _))
        have OW2 : Hid (((V.alloc (.cells #[] 23)).alloc (.cells (bC x).toArray 23)).drew.ownsRow V.heap.size 23 32 (.slice (some ⟨V.heap.size, 0, none⟩) 0 0) 0 []) := (owns_emptyD V V.heap.size 23 32 (Nat.le_refl _)).alloc (.cells (bC x).toArray 23)
        have OW3 : Hid (((V.alloc (.cells (bC x).toArray 23)).alloc (.cells #[] 23)).drew.ownsRow V.heap.size 23 32 (.slice (some ⟨V.heap.size + 1, 0, none⟩) 0 0) 0 []) := by have := owns_emptyD (V.alloc (.cells (bC x).toArray 23)) V.heap.size 23 32 (by simp); rwa [World.size_alloc] at this
        have SLA1 := Lib.hid (SlAt.gr slA GG1.out); have SLA2 := Lib.hid (SlAt.gr slA GG2.out); have SLA3 := Lib.hid (SlAt.gr slA GG3.out)
        have SLB := Lib.hid slB
        have HN1 : Hid (0 + ((l.take k).map bC).length = k) := by show _ = _; simp; omega
        have HN3 : Hid (k + 1 + ((l.drop k).map bC).length = l.length + 1) := by show _ = _; simp; omega
        have hg0 := (Gr.refl V).drew
        have hg0' := fun o => ((Gr.refl V).alloc o).drew
        have hg0'' := fun o o' => (((Gr.refl V).alloc o).alloc o').drew
        have hu23 := Tryz.underlying23
        have hi23 : (Tryz.prog.info? 23).map (·.size) = some (bC x).length := by rw [bC_length]; kernel_rfl
        clear slA slB SLV r1' r2'
        go_region_held_law (fun u => u.rangeAt w.heap.size 0 (bC x)) (first | exact KS.out _ hg0 | exact KS.out _ (hg0' _) | exact KS.out _ (hg0'' _ _) | exact KS.out _ GW1 | exact KS.out _ (GW1.alloc _) | exact KS.out _ GW2 | exact KS.out _ GW3) (first | (refine step_append_sl rfl 37 rfl (.tmp 33) (.tmp 36) 29 rfl V.heap.size 23 j0 y0 32 32 Tryz.underlying29 HJ0.out hy0 hy1 hy2 HY.out (by decide) (.slice (some ⟨V.heap.size, 0, none⟩) 0 0) 0 [] (by simp [Act.eval]) OW1.out (.slice none k cap) ((l.take k).map bC) (by simp [Act.eval]) SLA1.out (map_bC_len _) (ids_one _) k HN1.out (by omega) (by decide) (by simp <;> omega) ?_; intro a1 c1 w1 ho1 hg1; have GW1 := GG1.out.grown hg1 (fun k' hk' => by cases hk'; exact Nat.le_refl _)) | (refine step_append_sl rfl 37 rfl (.tmp 33) (.tmp 36) 29 rfl V.heap.size 23 j0 y0 32 32 Tryz.underlying29 HJ0.out hy0 hy1 hy2 HY.out (by decide) (.slice (some ⟨V.heap.size, 0, none⟩) 0 0) 0 [] (by simp [Act.eval]) OW2.out (.slice none k cap) ((l.take k).map bC) (by simp [Act.eval]) SLA2.out (map_bC_len _) (ids_one _) k HN1.out (by omega) (by decide) (by simp <;> omega) ?_; intro a1 c1 w1 ho1 hg1; have GW1 := GG2.out.grown hg1 (fun k' hk' => by cases hk'; exact Nat.le_refl _); have hbb := one_row ((hg1.block (V.heap.size + 1) (by simp) (by simp [Value.ownBlock])).trans (heap_new (V.alloc (.cells #[] 23)) (.cells (bC x).toArray 23) (V.heap.size + 1) (by simp))) (bC_length x)) | (refine step_append_sl rfl 37 rfl (.tmp 33) (.tmp 36) 29 rfl V.heap.size 23 j0 y0 32 32 Tryz.underlying29 HJ0.out hy0 hy1 hy2 HY.out (by decide) (.slice (some ⟨V.heap.size + 1, 0, none⟩) 0 0) 0 [] (by simp [Act.eval]) OW3.out (.slice none k cap) ((l.take k).map bC) (by simp [Act.eval]) SLA3.out (map_bC_len _) (ids_one _) k HN1.out (by omega) (by decide) (by simp <;> omega) ?_; intro a1 c1 w1 ho1 hg1; have GW1 := GG3.out.grown hg1 (fun k' hk' => by cases hk'; exact Nat.le_succ _); have hbb := one_row ((hg1.block V.heap.size (by simp <;> omega) (by simp [Value.ownBlock])).trans ((((Gr.refl _).alloc (.cells #[] 23)).block (by simp)).trans (heap_alloc_new V (.cells (bC x).toArray 23)))) (bC_length x)) | (refine step_append_sl rfl 40 rfl (.tmp 37) (.tmp 39) 29 rfl V.heap.size 23 j0 y0 32 32 Tryz.underlying29 HJ0.out hy0 hy1 hy2 HY.out (by decide) (.slice a1 k c1) k _ (by simp [Act.eval, Act.put]) ho1 _ [bC x] (by simp [Act.eval, Act.put]) hbb (one_len x) (one_one x) (k + 1) rfl (by omega) (by decide) (by have := GW1.size; simp <;> omega) ?_; intro a2 c2 w2 ho2 hg2; have GW2 : Gr V w2 := (by first | exact GW1.grown hg2 (fun k' hk' => (ho1.lt k' hk').1) | exact (GW1.alloc _).grown hg2 (fun k' hk' => (ho1.lt k' hk').1))) | (refine step_append_sl rfl 40 rfl (.tmp 37) (.tmp 39) 29 rfl V.heap.size 23 j0 y0 32 32 Tryz.underlying29 HJ0.out hy0 hy1 hy2 HY.out (by decide) (.slice a1 k c1) k _ (by simp [Act.eval]) (ho1.alloc _) _ [bC x] (by simp [Act.eval]) (one_row (heap_alloc_new w1 _) (bC_length x)) (one_len x) (one_one x) (k + 1) rfl (by omega) (by decide) (by have := GW1.size; simp <;> omega) ?_; intro a2 c2 w2 ho2 hg2; have GW2 : Gr V w2 := (by first | exact GW1.grown hg2 (fun k' hk' => (ho1.lt k' hk').1) | exact (GW1.alloc _).grown hg2 (fun k' hk' => (ho1.lt k' hk').1))) | (refine step_append_sl rfl 44 rfl (.tmp 40) (.tmp 43) 29 rfl V.heap.size 23 j0 y0 32 32 Tryz.underlying29 HJ0.out hy0 hy1 hy2 HY.out (by decide) (.slice a2 (k + 1) c2) (k + 1) _ (by simp [Act.eval, Act.put]) ho2 (.slice none (l.length - k) (cap - k)) ((l.drop k).map bC) (by simp [Act.eval, Act.put] <;> omega) (SlAt.gr SLB.out GW2) (map_bC_len _) (ids_one _) (l.length + 1) HN3.out (by omega) (by decide) GW2.size ?_; intro a3 c3 w3 ho3 hg3; have GW3 := GW2.grown hg3 (fun k' hk' => (ho2.lt k' hk').1)))
        all_goals
          go_wp2_with fail
          go_ret
          refine ⟨k, _, _, _, HPLC.out, rfl, ?_, GV.out.trans GW3, fun q hq => .inl (Nat.le_trans GV.out.size (ho3.lt q.block (by rw [hq]; rfl)).1)⟩
          rw [HINS.out]
          exact slAt_of_owns (map_bC_len (l.take k ++ x :: l.drop k)) (by have e : (l.take k ++ x :: l.drop k).length = l.length + 1 := by simp; omega
                                                                          rw [List.length_map, e]; simpa using ho3)
      · by_cases hck : cap = k
        · have HCK := Lib.hid hck
          clear hck
          go_wp2_with fail
          go_quiet (fail)
          have hp := Lib.hid (hG.out.drewN nq)
          have r1 := (hasRow_drewN wr nq ⟨w.heap.size, 0, none⟩ 32).trans r1
          have r2 := (rowAt_drewN wr nq ⟨w.heap.size, 0, none⟩ 32).trans r2
          have hzU : w.heap.size < (wr.drewN nq).heap.size := by simpa using hzb
          generalize wr.drewN nq = U at *
          go_wp2_with fail
          go_quiet (fail)
          go_wp2_with fail
          have r1' := (hasRow_drewN U nq ⟨w.heap.size, 0, none⟩ 32).trans r1
          have r2' := (rowAt_drewN U nq ⟨w.heap.size, 0, none⟩ 32).trans r2
          have GV := Lib.hid (hp.out.drewN nq)
          have SLV := SlAt.gr HV.out GV.out
          have hzV : w.heap.size < (U.drewN nq).heap.size := by simpa using hzU
          clear r1 r2
          generalize U.drewN nq = V at *
          have slA : SlAt V (.slice (some ad) k cap) 32 ((l.take k).map bC) := by rw [List.map_take]; exact SlAt.take SLV k (by rw [List.length_map]; omega)
          have slB : SlAt V (.slice (some ad) (l.length - k) (cap - k)) 32 ((l.drop k).map bC) := by
            rw [show l.drop k = [] from List.drop_of_length_le (by omega), show l.length - k = 0 by omega]; exact slAt_none _ _ _ _
          have n1 : (k : Int) ≤ (cap : Int) := by omega
          have n3 : (k : Int) ≤ (l.length : Int) := by omega
          have HPLC := HPL0
          have HINS := HINS0
          have KS : Hid (∀ W, Gr V W → W.rangeAt w.heap.size 0 (bC x)) := fun W hW => range_of_row ((hW.hasRow hzV).trans r1') ((hW.rowAt hzV).trans r2')
          have GG1 := Lib.hid ((Gr.refl V).alloc (.cells #[] 23)).drew
          have GG2 := Lib.hid (((Gr.refl V).alloc (.cells #[] 23)).alloc (.cells (bC x).toArray 23)).drew
          have GG3 := Lib.hid (((Gr.refl V).alloc (.cells (bC x).toArray 23)).alloc (.cells #[] 23)).drew
          have OW1 := Lib.hid (owns_emptyD V V.heap.size 23 32 (Nat.le_refl _))
          have OW2 : Hid (((V.alloc (.cells #[] 23)).alloc (.cells (bC x).toArray 23)).drew.ownsRow V.heap.size 23 32 (.slice (some ⟨V.heap.size, 0, none⟩) 0 0) 0 []) := (owns_emptyD V V.heap.size 23 32 (Nat.le_refl _)).alloc (.cells (bC x).toArray 23)
          have OW3 : Hid (((V.alloc (.cells (bC x).toArray 23)).alloc (.cells #[] 23)).drew.ownsRow V.heap.size 23 32 (.slice (some ⟨V.heap.size + 1, 0, none⟩) 0 0) 0 []) := by have := owns_emptyD (V.alloc (.cells (bC x).toArray 23)) V.heap.size 23 32 (by simp); rwa [World.size_alloc] at this
          have SLA1 := Lib.hid (SlAt.gr slA GG1.out); have SLA2 := Lib.hid (SlAt.gr slA GG2.out); have SLA3 := Lib.hid (SlAt.gr slA GG3.out)
          have SLB := Lib.hid slB
          have HN1 : Hid (0 + ((l.take k).map bC).length = k) := by show _ = _; simp; omega
          have HN3 : Hid (k + 1 + ((l.drop k).map bC).length = l.length + 1) := by show _ = _; simp; omega
          have hg0 := (Gr.refl V).drew
          have hg0' := fun o => ((Gr.refl V).alloc o).drew
          have hg0'' := fun o o' => (((Gr.refl V).alloc o).alloc o').drew
          have hu23 := Tryz.underlying23
          have hi23 : (Tryz.prog.info? 23).map (·.size) = some (bC x).length := by rw [bC_length]; kernel_rfl
          clear slA slB SLV r1' r2'
          go_region_held_law (fun u => u.rangeAt w.heap.size 0 (bC x)) (first | exact KS.out _ hg0 | exact KS.out _ (hg0' _) | exact KS.out _ (hg0'' _ _) | exact KS.out _ GW1 | exact KS.out _ (GW1.alloc _) | exact KS.out _ GW2 | exact KS.out _ GW3) (first | (refine step_append_sl rfl 37 rfl (.tmp 33) (.tmp 36) 29 rfl V.heap.size 23 j0 y0 32 32 Tryz.underlying29 HJ0.out hy0 hy1 hy2 HY.out (by decide) (.slice (some ⟨V.heap.size, 0, none⟩) 0 0) 0 [] (by simp [Act.eval]) OW1.out (.slice (some ad) k cap) ((l.take k).map bC) (by simp [Act.eval]) SLA1.out (map_bC_len _) (ids_one _) k HN1.out (by omega) (by decide) (by simp <;> omega) ?_; intro a1 c1 w1 ho1 hg1; have GW1 := GG1.out.grown hg1 (fun k' hk' => by cases hk'; exact Nat.le_refl _)) | (refine step_append_sl rfl 37 rfl (.tmp 33) (.tmp 36) 29 rfl V.heap.size 23 j0 y0 32 32 Tryz.underlying29 HJ0.out hy0 hy1 hy2 HY.out (by decide) (.slice (some ⟨V.heap.size, 0, none⟩) 0 0) 0 [] (by simp [Act.eval]) OW2.out (.slice (some ad) k cap) ((l.take k).map bC) (by simp [Act.eval]) SLA2.out (map_bC_len _) (ids_one _) k HN1.out (by omega) (by decide) (by simp <;> omega) ?_; intro a1 c1 w1 ho1 hg1; have GW1 := GG2.out.grown hg1 (fun k' hk' => by cases hk'; exact Nat.le_refl _); have hbb := one_row ((hg1.block (V.heap.size + 1) (by simp) (by simp [Value.ownBlock])).trans (heap_new (V.alloc (.cells #[] 23)) (.cells (bC x).toArray 23) (V.heap.size + 1) (by simp))) (bC_length x)) | (refine step_append_sl rfl 37 rfl (.tmp 33) (.tmp 36) 29 rfl V.heap.size 23 j0 y0 32 32 Tryz.underlying29 HJ0.out hy0 hy1 hy2 HY.out (by decide) (.slice (some ⟨V.heap.size + 1, 0, none⟩) 0 0) 0 [] (by simp [Act.eval]) OW3.out (.slice (some ad) k cap) ((l.take k).map bC) (by simp [Act.eval]) SLA3.out (map_bC_len _) (ids_one _) k HN1.out (by omega) (by decide) (by simp <;> omega) ?_; intro a1 c1 w1 ho1 hg1; have GW1 := GG3.out.grown hg1 (fun k' hk' => by cases hk'; exact Nat.le_succ _); have hbb := one_row ((hg1.block V.heap.size (by simp <;> omega) (by simp [Value.ownBlock])).trans ((((Gr.refl _).alloc (.cells #[] 23)).block (by simp)).trans (heap_alloc_new V (.cells (bC x).toArray 23)))) (bC_length x)) | (refine step_append_sl rfl 40 rfl (.tmp 37) (.tmp 39) 29 rfl V.heap.size 23 j0 y0 32 32 Tryz.underlying29 HJ0.out hy0 hy1 hy2 HY.out (by decide) (.slice a1 k c1) k _ (by simp [Act.eval, Act.put]) ho1 _ [bC x] (by simp [Act.eval, Act.put]) hbb (one_len x) (one_one x) (k + 1) rfl (by omega) (by decide) (by have := GW1.size; simp <;> omega) ?_; intro a2 c2 w2 ho2 hg2; have GW2 : Gr V w2 := (by first | exact GW1.grown hg2 (fun k' hk' => (ho1.lt k' hk').1) | exact (GW1.alloc _).grown hg2 (fun k' hk' => (ho1.lt k' hk').1))) | (refine step_append_sl rfl 40 rfl (.tmp 37) (.tmp 39) 29 rfl V.heap.size 23 j0 y0 32 32 Tryz.underlying29 HJ0.out hy0 hy1 hy2 HY.out (by decide) (.slice a1 k c1) k _ (by simp [Act.eval]) (ho1.alloc _) _ [bC x] (by simp [Act.eval]) (one_row (heap_alloc_new w1 _) (bC_length x)) (one_len x) (one_one x) (k + 1) rfl (by omega) (by decide) (by have := GW1.size; simp <;> omega) ?_; intro a2 c2 w2 ho2 hg2; have GW2 : Gr V w2 := (by first | exact GW1.grown hg2 (fun k' hk' => (ho1.lt k' hk').1) | exact (GW1.alloc _).grown hg2 (fun k' hk' => (ho1.lt k' hk').1))) | (refine step_append_sl rfl 44 rfl (.tmp 40) (.tmp 43) 29 rfl V.heap.size 23 j0 y0 32 32 Tryz.underlying29 HJ0.out hy0 hy1 hy2 HY.out (by decide) (.slice a2 (k + 1) c2) (k + 1) _ (by simp [Act.eval, Act.put]) ho2 (.slice (some ad) (l.length - k) (cap - k)) ((l.drop k).map bC) (by simp [Act.eval, Act.put, HCK.out] <;> omega) (SlAt.gr SLB.out GW2) (map_bC_len _) (ids_one _) (l.length + 1) HN3.out (by omega) (by decide) GW2.size ?_; intro a3 c3 w3 ho3 hg3; have GW3 := GW2.grown hg3 (fun k' hk' => (ho2.lt k' hk').1)))
          all_goals
            go_wp2_with fail
            go_ret
            refine ⟨k, _, _, _, HPLC.out, rfl, ?_, GV.out.trans GW3, fun q hq => .inl (Nat.le_trans GV.out.size (ho3.lt q.block (by rw [hq]; rfl)).1)⟩
            rw [HINS.out]
            exact slAt_of_owns (map_bC_len (l.take k ++ x :: l.drop k)) (by have e : (l.take k ++ x :: l.drop k).length = l.length + 1 := by simp; omega
                                                                            rw [List.length_map, e]; simpa using ho3)
        · have hck' : ¬ cap = k := hck
          go_wp2_with fail
          go_quiet (fail)
          have hp := Lib.hid (hG.out.drewN nq)
          have r1 := (hasRow_drewN wr nq ⟨w.heap.size, 0, none⟩ 32).trans r1
          have r2 := (rowAt_drewN wr nq ⟨w.heap.size, 0, none⟩ 32).trans r2
          have hzU : w.heap.size < (wr.drewN nq).heap.size := by simpa using hzb
          generalize wr.drewN nq = U at *
          go_wp2_with fail
          go_quiet (fail)
          go_wp2_with fail
          have r1' := (hasRow_drewN U nq ⟨w.heap.size, 0, none⟩ 32).trans r1
          have r2' := (rowAt_drewN U nq ⟨w.heap.size, 0, none⟩ 32).trans r2
          have GV := Lib.hid (hp.out.drewN nq)
          have SLV := SlAt.gr HV.out GV.out
          have hzV : w.heap.size < (U.drewN nq).heap.size := by simpa using hzU
          clear r1 r2
          generalize U.drewN nq = V at *
          have slA : SlAt V (.slice (some ad) k cap) 32 ((l.take k).map bC) := by rw [List.map_take]; exact SlAt.take SLV k (by rw [List.length_map]; omega)
          have slB : SlAt V (.slice (some (ad.add (k * 32))) (l.length - k) (cap - k)) 32 ((l.drop k).map bC) := by
            rw [show l.drop k = [] from List.drop_of_length_le (by omega), show l.length - k = 0 by omega]; exact slAt_none _ _ _ _
          have n1 : (k : Int) ≤ (cap : Int) := by omega
          have n3 : (k : Int) ≤ (l.length : Int) := by omega
          have HPLC := HPL0
          have HINS := HINS0
          have KS : Hid (∀ W, Gr V W → W.rangeAt w.heap.size 0 (bC x)) := fun W hW => range_of_row ((hW.hasRow hzV).trans r1') ((hW.rowAt hzV).trans r2')
          have GG1 := Lib.hid ((Gr.refl V).alloc (.cells #[] 23)).drew
          have GG2 := Lib.hid (((Gr.refl V).alloc (.cells #[] 23)).alloc (.cells (bC x).toArray 23)).drew
          have GG3 := Lib.hid (((Gr.refl V).alloc (.cells (bC x).toArray 23)).alloc (.cells #[] 23)).drew
          have OW1 := Lib.hid (owns_emptyD V V.heap.size 23 32 (Nat.le_refl _))
          have OW2 : Hid (((V.alloc (.cells #[] 23)).alloc (.cells (bC x).toArray 23)).drew.ownsRow V.heap.size 23 32 (.slice (some ⟨V.heap.size, 0, none⟩) 0 0) 0 []) := (owns_emptyD V V.heap.size 23 32 (Nat.le_refl _)).alloc (.cells (bC x).toArray 23)
          have OW3 : Hid (((V.alloc (.cells (bC x).toArray 23)).alloc (.cells #[] 23)).drew.ownsRow V.heap.size 23 32 (.slice (some ⟨V.heap.size + 1, 0, none⟩) 0 0) 0 []) := by have := owns_emptyD (V.alloc (.cells (bC x).toArray 23)) V.heap.size 23 32 (by simp); rwa [World.size_alloc] at this
          have SLA1 := Lib.hid (SlAt.gr slA GG1.out); have SLA2 := Lib.hid (SlAt.gr slA GG2.out); have SLA3 := Lib.hid (SlAt.gr slA GG3.out)
          have SLB := Lib.hid slB
          have HN1 : Hid (0 + ((l.take k).map bC).length = k) := by show _ = _; simp; omega
          have HN3 : Hid (k + 1 + ((l.drop k).map bC).length = l.length + 1) := by show _ = _; simp; omega
          have hg0 := (Gr.refl V).drew
          have hg0' := fun o => ((Gr.refl V).alloc o).drew
          have hg0'' := fun o o' => (((Gr.refl V).alloc o).alloc o').drew
          have hu23 := Tryz.underlying23
          have hi23 : (Tryz.prog.info? 23).map (·.size) = some (bC x).length := by rw [bC_length]; kernel_rfl
          clear slA slB SLV r1' r2'
          go_region_held_law (fun u => u.rangeAt w.heap.size 0 (bC x)) (first | exact KS.out _ hg0 | exact KS.out _ (hg0' _) | exact KS.out _ (hg0'' _ _) | exact KS.out _ GW1 | exact KS.out _ (GW1.alloc _) | exact KS.out _ GW2 | exact KS.out _ GW3) (first | (refine step_append_sl rfl 37 rfl (.tmp 33) (.tmp 36) 29 rfl V.heap.size 23 j0 y0 32 32 Tryz.underlying29 HJ0.out hy0 hy1 hy2 HY.out (by decide) (.slice (some ⟨V.heap.size, 0, none⟩) 0 0) 0 [] (by simp [Act.eval]) OW1.out (.slice (some ad) k cap) ((l.take k).map bC) (by simp [Act.eval]) SLA1.out (map_bC_len _) (ids_one _) k HN1.out (by omega) (by decide) (by simp <;> omega) ?_; intro a1 c1 w1 ho1 hg1; have GW1 := GG1.out.grown hg1 (fun k' hk' => by cases hk'; exact Nat.le_refl _)) | (refine step_append_sl rfl 37 rfl (.tmp 33) (.tmp 36) 29 rfl V.heap.size 23 j0 y0 32 32 Tryz.underlying29 HJ0.out hy0 hy1 hy2 HY.out (by decide) (.slice (some ⟨V.heap.size, 0, none⟩) 0 0) 0 [] (by simp [Act.eval]) OW2.out (.slice (some ad) k cap) ((l.take k).map bC) (by simp [Act.eval]) SLA2.out (map_bC_len _) (ids_one _) k HN1.out (by omega) (by decide) (by simp <;> omega) ?_; intro a1 c1 w1 ho1 hg1; have GW1 := GG2.out.grown hg1 (fun k' hk' => by cases hk'; exact Nat.le_refl _); have hbb := one_row ((hg1.block (V.heap.size + 1) (by simp) (by simp [Value.ownBlock])).trans (heap_new (V.alloc (.cells #[] 23)) (.cells (bC x).toArray 23) (V.heap.size + 1) (by simp))) (bC_length x)) | (refine step_append_sl rfl 37 rfl (.tmp 33) (.tmp 36) 29 rfl V.heap.size 23 j0 y0 32 32 Tryz.underlying29 HJ0.out hy0 hy1 hy2 HY.out (by decide) (.slice (some ⟨V.heap.size + 1, 0, none⟩) 0 0) 0 [] (by simp [Act.eval]) OW3.out (.slice (some ad) k cap) ((l.take k).map bC) (by simp [Act.eval]) SLA3.out (map_bC_len _) (ids_one _) k HN1.out (by omega) (by decide) (by simp <;> omega) ?_; intro a1 c1 w1 ho1 hg1; have GW1 := GG3.out.grown hg1 (fun k' hk' => by cases hk'; exact Nat.le_succ _); have hbb := one_row ((hg1.block V.heap.size (by simp <;> omega) (by simp [Value.ownBlock])).trans ((((Gr.refl _).alloc (.cells #[] 23)).block (by simp)).trans (heap_alloc_new V (.cells (bC x).toArray 23)))) (bC_length x)) | (refine step_append_sl rfl 40 rfl (.tmp 37) (.tmp 39) 29 rfl V.heap.size 23 j0 y0 32 32 Tryz.underlying29 HJ0.out hy0 hy1 hy2 HY.out (by decide) (.slice a1 k c1) k _ (by simp [Act.eval, Act.put]) ho1 _ [bC x] (by simp [Act.eval, Act.put]) hbb (one_len x) (one_one x) (k + 1) rfl (by omega) (by decide) (by have := GW1.size; simp <;> omega) ?_; intro a2 c2 w2 ho2 hg2; have GW2 : Gr V w2 := (by first | exact GW1.grown hg2 (fun k' hk' => (ho1.lt k' hk').1) | exact (GW1.alloc _).grown hg2 (fun k' hk' => (ho1.lt k' hk').1))) | (refine step_append_sl rfl 40 rfl (.tmp 37) (.tmp 39) 29 rfl V.heap.size 23 j0 y0 32 32 Tryz.underlying29 HJ0.out hy0 hy1 hy2 HY.out (by decide) (.slice a1 k c1) k _ (by simp [Act.eval]) (ho1.alloc _) _ [bC x] (by simp [Act.eval]) (one_row (heap_alloc_new w1 _) (bC_length x)) (one_len x) (one_one x) (k + 1) rfl (by omega) (by decide) (by have := GW1.size; simp <;> omega) ?_; intro a2 c2 w2 ho2 hg2; have GW2 : Gr V w2 := (by first | exact GW1.grown hg2 (fun k' hk' => (ho1.lt k' hk').1) | exact (GW1.alloc _).grown hg2 (fun k' hk' => (ho1.lt k' hk').1))) | (refine step_append_sl rfl 44 rfl (.tmp 40) (.tmp 43) 29 rfl V.heap.size 23 j0 y0 32 32 Tryz.underlying29 HJ0.out hy0 hy1 hy2 HY.out (by decide) (.slice a2 (k + 1) c2) (k + 1) _ (by simp [Act.eval, Act.put]) ho2 (.slice (some (ad.add (k * 32))) (l.length - k) (cap - k)) ((l.drop k).map bC) (by simp [Act.eval, Act.put] <;> omega) (SlAt.gr SLB.out GW2) (map_bC_len _) (ids_one _) (l.length + 1) HN3.out (by omega) (by decide) GW2.size ?_; intro a3 c3 w3 ho3 hg3; have GW3 := GW2.grown hg3 (fun k' hk' => (ho2.lt k' hk').1)))
          all_goals
            go_wp2_with fail
            go_ret
            refine ⟨k, _, _, _, HPLC.out, rfl, ?_, GV.out.trans GW3, fun q hq => .inl (Nat.le_trans GV.out.size (ho3.lt q.block (by rw [hq]; rfl)).1)⟩
            rw [HINS.out]
            exact slAt_of_owns (map_bC_len (l.take k ++ x :: l.drop k)) (by have e : (l.take k ++ x :: l.drop k).length = l.length + 1 := by simp; omega
                                                                            rw [List.length_map, e]; simpa using ho3)
theorem insertC (l : List Id) (v : Value) (x : Id) (w : World) (hv : IdsAt w v l) (hl : l.length ≤ 100000) :
    Calls Tryz.prog 19 #[v, .agg (bC x).toArray] w (InsPost l x w) :=
  (insertF l v x w hv hl).mono fun _ _ ⟨k, a, n, c, h1, h2, h3, h4, _⟩ => ⟨k, a, n, c, h1, h2, h3, h4⟩
end Go.Proofs.YtemhfcfebkjioaaGreatDoor

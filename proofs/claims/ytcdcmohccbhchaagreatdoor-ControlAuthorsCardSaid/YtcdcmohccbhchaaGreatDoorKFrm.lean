/- control.forms: the map of the readers. -/
import Derived.Test.YtcdcmohccbhchaaGreatDoorKMap
namespace Go.Proofs.YtcdcmohccbhchaaGreatDoor
open Go.RowKit

noncomputable def fops : Array Oper := match Tryz.f51.body with | some (.seq _ (.seq (.region _ o _) _)) => o | _ => #[]
def keyK (k : Fin 5) : ByteArray := kindS ((k.val : Int) + 1)
def fnK (k : Fin 5) : Nat := [79, 81, 83, 87, 88].getD k.val 0
def pr (k : Fin 5) : ByteArray × Value := (keyK k, .func (.func (fnK k)) #[] #[])
theorem keyK_inj : ∀ i j : Fin 5, keyK i = keyK j → i = j := by
  intro i j h
  have : (keyK i).data.toList = (keyK j).data.toList := by rw [h]
  revert this
  revert i j
  have gen : ∀ i j : Fin 5, (keyK i).data.toList = (keyK j).data.toList → i = j := by decide +kernel
  intro i j _ h; exact gen i j h
def arr (m : Bool) (c : Nat) (b0 b1 b2 b3 b4 : Bool) : Array Bool := #[m, decide (1 ≤ c), b0, decide (2 ≤ c), b1, decide (3 ≤ c), b2, decide (4 ≤ c), b3, decide (5 ≤ c), b4, false, false]
def okS (m : Bool) (c : Nat) (b0 b1 b2 b3 b4 : Bool) (i : Nat) : Bool :=
  (i == 0 && !m) || (i == 2 * c + 1 && decide (c < 5)) || (i == 2 && m && !b0 && decide (1 ≤ c)) || (i == 4 && m && !b1 && decide (2 ≤ c)) || (i == 6 && m && !b2 && decide (3 ≤ c)) || (i == 8 && m && !b3 && decide (4 ≤ c)) || (i == 10 && m && !b4 && decide (5 ≤ c)) || (i == 11 && m && c == 5 && b0 && b1 && b2 && b3 && b4)
theorem ready_ok : ∀ (m : Bool) (c : Fin 6) (b0 b1 b2 b3 b4 : Bool), ((Region.ready .any fops (arr m c.val b0 b1 b2 b3 b4)).all (okS m c.val b0 b1 b2 b3 b4) && !(Region.ready .any fops (arr m c.val b0 b1 b2 b3 b4)).isEmpty) = true := by decide +kernel
def aOf (w : World) (m : Bool) (c : Nat) : Act := ⟨#[.map none, if m then .map (some w.heap.size) else undef, if 1 ≤ c then .string (keyK 0) else undef, if 2 ≤ c then .string (keyK 1) else undef, if 3 ≤ c then .string (keyK 2) else undef, if 4 ≤ c then .string (keyK 3) else undef, if 5 ≤ c then .string (keyK 4) else undef, undef], []⟩
def wOf (w : World) (m : Bool) (L : List (Fin 5)) : World := if m then mapW w (L.map pr) else w
section
variable {P : Program} {ops : Array Oper} {Q : Exit → Act → World → Prop} {K : Act → World → Prop}
theorem wpOp_plain {i : Nat} {o : Oper} {a : Act} {w : World} (hi : ops[i]? = some o) (hg : o.guard = none) (h : o.wp P a w K Q) : wpOp P ops Q i K a w := by
  have hw : Region.wanted o (yielded ops a.tmps) = true := by simp [Region.wanted, hg]
  unfold wpOp
  simp only [hi, hw, if_true]
  exact .inl h
theorem wp_value {o : Oper} {a : Act} {w w' : World} {v : Value} (hr : (execOp a.eval o).run P w = .ok (.value v) w') (h : K (a.put o.dst v) w') : o.wp P a w K Q := by
  unfold Oper.wp; rw [hr]; exact h
theorem wp_skip {o : Oper} {a : Act} {w w' : World} (hd : o.dst = none) (hr : (execOp a.eval o).run P w = .ok .skip w') (h : K a w') : o.wp P a w K Q := by
  unfold Oper.wp; rw [hr, Oper.upon_skip, hd]; exact h
theorem wp_enter {o : Oper} {a : Act} {w : World} {f : FuncId} {args : Array Value} {v : Value} (hr : (execOp a.eval o).run P w = .ok (.enter f args) w) (hc : Calls P f args w fun e w' => e = .returned v ∧ w = w') (h : K (a.put o.dst v) w) : o.wp P a w K Q := by
  unfold Oper.wp; rw [hr, Oper.upon_enter]
  exact hc.mono fun e w' ⟨he, hw⟩ => by subst he; subst hw; exact h
end
theorem kindEnter (args : Array Value) (w : World) : (callFunc 28 args).run Tryz.prog w = .ok (.enter 28 args) w := enters_of Tryz.func28 (by kernel_rfl) rfl args w
/-- What each operation is. -/
theorem op0 : ∃ o, fops[0]? = some o ∧ o.dst = some 1 ∧ o.op = .makeMap 82 none ∧ o.guard = none := ⟨_, rfl, rfl, rfl, rfl⟩
theorem opC (k : Fin 5) : ∃ o, fops[2 * k.val + 1]? = some o ∧ o.dst = some (k.val + 2) ∧ o.op = .call { callee := .value (.func 28), args := #[.const (.int .i64 ((k.val : Int) + 1))], argTypes := #[3] } ∧ o.guard = none := by
  have : k = 0 ∨ k = 1 ∨ k = 2 ∨ k = 3 ∨ k = 4 := by omega
  rcases this with rfl | rfl | rfl | rfl | rfl <;> exact ⟨_, rfl, rfl, rfl, rfl⟩
theorem opI (k : Fin 5) : ∃ o, fops[2 * k.val + 2]? = some o ∧ o.dst = none ∧ o.op = .insert 82 (.tmp 1) (.tmp (k.val + 2)) (.func (fnK k)) ∧ o.guard = none := by
  have : k = 0 ∨ k = 1 ∨ k = 2 ∨ k = 3 ∨ k = 4 := by omega
  rcases this with rfl | rfl | rfl | rfl | rfl <;> exact ⟨_, rfl, rfl, rfl, rfl⟩
theorem op11 : ∃ o, fops[11]? = some o ∧ o.dst = some 7 ∧ o.op = .move (.tmp 1) ∧ o.guard = none := ⟨_, rfl, rfl, rfl, rfl⟩
theorem op12 : ∃ o, fops[12]? = some o ∧ o.dst = some 0 ∧ o.op = .assign (.tmp 7) ∧ o.guard = none := ⟨_, rfl, rfl, rfl, rfl⟩
def arrL (m : Bool) (c : Nat) (L : List (Fin 5)) : Array Bool := arr m c (decide (0 ∈ L)) (decide (1 ∈ L)) (decide (2 ∈ L)) (decide (3 ∈ L)) (decide (4 ∈ L))
def cntL (L : List (Fin 5)) : Nat := (if 0 ∈ L then 0 else 1) + (if 1 ∈ L then 0 else 1) + (if 2 ∈ L then 0 else 1) + (if 3 ∈ L then 0 else 1) + (if 4 ∈ L then 0 else 1)
def aEnd (w : World) : Act := ((aOf w true 5).put (some 7) (.map (some w.heap.size))).put (some 0) (.map (some w.heap.size))
theorem fin3 : ((3 : Fin 5) : Nat) = 3 := rfl
theorem fin4 : ((4 : Fin 5) : Nat) = 4 := rfl
theorem arrL_ins (k : Fin 5) (c : Nat) (L : List (Fin 5)) : (arrL true c L).setIfInBounds (2 * k.val + 2) true = arrL true c (L ++ [k]) := by
  have : k = 0 ∨ k = 1 ∨ k = 2 ∨ k = 3 ∨ k = 4 := by omega
  rcases this with rfl | rfl | rfl | rfl | rfl <;> simp [arrL, arr, fin3, fin4]
theorem arrL_call (k : Fin 5) (m : Bool) (L : List (Fin 5)) : (arrL m k.val L).setIfInBounds (2 * k.val + 1) true = arrL m (k.val + 1) L := by
  have : k = 0 ∨ k = 1 ∨ k = 2 ∨ k = 3 ∨ k = 4 := by omega
  rcases this with rfl | rfl | rfl | rfl | rfl <;> simp [arrL, arr, fin3, fin4]
theorem aOf_call (w : World) (k : Fin 5) (m : Bool) : (aOf w m k.val).put (some (k.val + 2)) (.string (keyK k)) = aOf w m (k.val + 1) := by
  have : k = 0 ∨ k = 1 ∨ k = 2 ∨ k = 3 ∨ k = 4 := by omega
  rcases this with rfl | rfl | rfl | rfl | rfl <;> simp [aOf, Act.put, fin3, fin4]
theorem aOf_key (w : World) (k : Fin 5) (c : Nat) (h : k.val < c) : (aOf w true c).eval (.tmp (k.val + 2)) = .string (keyK k) := by
  have : k = 0 ∨ k = 1 ∨ k = 2 ∨ k = 3 ∨ k = 4 := by omega
  rcases this with rfl | rfl | rfl | rfl | rfl <;> exact if_pos h
theorem cnt_ins (k : Fin 5) (L : List (Fin 5)) (h : k ∉ L) : cntL L = cntL (L ++ [k]) + 1 := by
  have : k = 0 ∨ k = 1 ∨ k = 2 ∨ k = 3 ∨ k = 4 := by omega
  rcases this with rfl | rfl | rfl | rfl | rfl <;> simp [cntL, h] <;> omega
theorem cnt_zero {L : List (Fin 5)} (h : cntL L = 0) : ∀ k : Fin 5, k ∈ L := by
  unfold cntL at h
  intro k
  have h0 : 0 ∈ L := Decidable.byContradiction fun q => by rw [if_neg q] at h; omega
  have h1 : 1 ∈ L := Decidable.byContradiction fun q => by rw [if_neg q] at h; omega
  have h2 : 2 ∈ L := Decidable.byContradiction fun q => by rw [if_neg q] at h; omega
  have h3 : 3 ∈ L := Decidable.byContradiction fun q => by rw [if_neg q] at h; omega
  have h4 : 4 ∈ L := Decidable.byContradiction fun q => by rw [if_neg q] at h; omega
  have : k = 0 ∨ k = 1 ∨ k = 2 ∨ k = 3 ∨ k = 4 := by omega
  rcases this with rfl | rfl | rfl | rfl | rfl <;> assumption
set_option maxRecDepth 100000 in
set_option maxHeartbeats 4000000 in
theorem forms_any (w : World) (Q : Exit → Act → World → Prop) (HQ : ∀ L : List (Fin 5), L.Nodup → (∀ k, k ∈ L) → Q .normal (aEnd w) (mapW w (L.map pr))) :
    ∀ (n : Nat) (m : Bool) (c : Nat) (L : List (Fin 5)), (if m = true then 0 else 1) + (5 - c) + cntL L = n → c ≤ 5 → L.Nodup → (m = false → L = []) → (∀ k ∈ L, k.val < c) → wpAny Tryz.prog .any fops Q (n + 2) (arrL m c L) (aOf w m c) (wOf w m L) := by
  intro n
  induction n with
  | zero =>
    intro m c L hn hc hL hm hk
    obtain rfl : m = true := by cases m with | true => rfl | false => simp at hn
    obtain rfl : c = 5 := by simp at hn; omega
    have hall := cnt_zero (L := L) (by simp at hn; omega)
    have ha : arrL true 5 L = arr true 5 true true true true true := by unfold arrL; simp [hall]
    rw [ha]
    obtain ⟨o, h1, h2, h3, h4⟩ := op11
    obtain ⟨o', g1, g2, g3, g4⟩ := op12
    refine wpAny_all (rs := [11]) (by kernel_rfl) (by simp) (fun i hi => ?_)
    rw [List.mem_singleton] at hi; subst hi
    refine wpOp_plain h1 h4 (wp_value (v := .map (some w.heap.size)) (w' := mapW w (L.map pr)) (by simp [execOp, h3, aOf, Act.eval, wOf]) ?_)
    rw [h2]
    refine wpAny_all (rs := [12]) (by kernel_rfl) (by simp) (fun i hi => ?_)
    rw [List.mem_singleton] at hi; subst hi
    refine wpOp_plain g1 g4 (wp_value (v := .map (some w.heap.size)) (w' := mapW w (L.map pr)) (by simp [execOp, g3, aOf, Act.eval, Act.put]) ?_)
    rw [g2]
    exact wpAny_done (by kernel_rfl) (HQ L hL hall) 0
  | succ n ih =>
    intro m c L hn hc hL hm hk
    have hr := ready_ok m ⟨c, by omega⟩ (decide (0 ∈ L)) (decide (1 ∈ L)) (decide (2 ∈ L)) (decide (3 ∈ L)) (decide (4 ∈ L))
    rw [Bool.and_eq_true] at hr
    refine ⟨fun h0 => ?_, fun i hi => ?_⟩
    · have h2 := hr.2
      have h0' : Region.ready .any fops (arr m c (decide (0 ∈ L)) (decide (1 ∈ L)) (decide (2 ∈ L)) (decide (3 ∈ L)) (decide (4 ∈ L))) = [] := h0
      simp only [h0'] at h2
      cases h2
    · have ho := List.all_eq_true.1 hr.1 i hi
      have step_ins : ∀ k : Fin 5, m = true → k ∉ L → k.val < c → wpOp Tryz.prog fops Q (2 * k.val + 2) (wpAny Tryz.prog .any fops Q (n + 2) ((arrL m c L).setIfInBounds (2 * k.val + 2) true)) (aOf w m c) (wOf w m L) := by
        rintro k rfl hkL hkc
        obtain ⟨o, h1, h2, h3, h4⟩ := opI k
        have hput := run_put (P := Tryz.prog) w Tryz.underlying82 Tryz.underlying9 (L.map pr) (keyK k) (.func (.func (fnK k)) #[] #[]) (by
          intro e he
          obtain ⟨j, hj, rfl⟩ := List.mem_map.1 he
          exact fun q => hkL (keyK_inj j k q ▸ hj))
        refine wpOp_plain h1 h4 (wp_skip (w' := mapW w ((L ++ [k]).map pr)) h2 ?_ ?_)
        · have e1 : (aOf w true c).eval (.tmp 1) = .map (some w.heap.size) := rfl
          have e3 : (aOf w true c).eval (.func (fnK k)) = .func (.func (fnK k)) #[] #[] := rfl
          have hput' : (Instr.mapUpdate 82 (.map (some w.heap.size)) (.string (keyK k)) (.func (.func (fnK k)) #[] #[])).run Tryz.prog (wOf w true L) = .ok () (mapW w ((L ++ [k]).map pr)) := by
            rw [List.map_append]; exact hput
          unfold execOp
          simp only [h3, e1, e3, aOf_key w k c hkc, Sem.run_bind, hput', Result.andThen_ok, Sem.run_pure]
        · rw [arrL_ins]
          exact ih true c (L ++ [k]) (by have := cnt_ins k L hkL; simp at hn ⊢; omega) hc (by rw [List.nodup_append]; exact ⟨hL, by simp, fun a ha b hb => by simp at hb; subst hb; exact fun q => hkL (q ▸ ha)⟩) (fun q => by cases q) (fun j hj => by rcases List.mem_append.1 hj with q | q; exact hk j q; simp at q; subst q; exact hkc)
      have step_call : ∀ k : Fin 5, c = k.val → wpOp Tryz.prog fops Q (2 * k.val + 1) (wpAny Tryz.prog .any fops Q (n + 2) ((arrL m c L).setIfInBounds (2 * k.val + 1) true)) (aOf w m c) (wOf w m L) := by
        rintro k rfl
        obtain ⟨o, h1, h2, h3, h4⟩ := opC k
        refine wpOp_plain h1 h4 (wp_enter (f := 28) (args := #[.int .i64 ((k.val : Int) + 1)]) (v := .string (keyK k)) ?_ (kindNameC _ _) ?_)
        · unfold execOp
          simp [h3, resolve, invoke, Deferred.ofValue, kindEnter, Act.eval]
        · rw [h2, arrL_call, aOf_call]
          exact ih m (k.val + 1) L (by have := k.isLt; omega) (by have := k.isLt; omega) hL hm (fun j hj => Nat.lt_succ_of_lt (hk j hj))
      simp only [okS, Bool.or_eq_true, Bool.and_eq_true, beq_iff_eq, Bool.not_eq_true', decide_eq_true_eq, decide_eq_false_iff_not] at ho
      rcases ho with ((((((⟨rfl, hmf⟩ | ⟨rfl, hc5⟩) | ⟨⟨⟨rfl, hm1⟩, hk0⟩, hc0⟩) | ⟨⟨⟨rfl, hm1⟩, hk0⟩, hc0⟩) | ⟨⟨⟨rfl, hm1⟩, hk0⟩, hc0⟩) | ⟨⟨⟨rfl, hm1⟩, hk0⟩, hc0⟩) | ⟨⟨⟨rfl, hm1⟩, hk0⟩, hc0⟩) | ⟨⟨⟨⟨⟨⟨⟨rfl, hm1⟩, hc0⟩, q0⟩, q1⟩, q2⟩, q3⟩, q4⟩
      · subst hmf
        obtain rfl := hm rfl
        obtain ⟨o, h1, h2, h3, h4⟩ := op0
        refine wpOp_plain h1 h4 (wp_value (v := .map (some w.heap.size)) (w' := mapW w []) (by unfold execOp; simp [h3, run_makeMap_plain, wOf, mapW, entL]) ?_)
        rw [h2]
        exact ih true c [] (by simp at hn ⊢; omega) hc List.nodup_nil (fun _ => rfl) (fun k hk => by cases hk)
      · exact step_call ⟨c, hc5⟩ rfl
      · exact step_ins 0 hm1 hk0 hc0
      · exact step_ins 1 hm1 hk0 hc0
      · exact step_ins 2 hm1 hk0 hc0
      · exact step_ins 3 hm1 hk0 hc0
      · exact step_ins 4 hm1 hk0 hc0
      · exfalso
        rw [hm1, hc0] at hn
        simp [cntL, q0, q1, q2, q3, q4] at hn
theorem aEnd_eq (w : World) : aEnd w = ⟨#[.map (some w.heap.size), .map (some w.heap.size), .string (keyK 0), .string (keyK 1), .string (keyK 2), .string (keyK 3), .string (keyK 4), .map (some w.heap.size)], []⟩ := by simp [aEnd, aOf, Act.put]
set_option maxRecDepth 100000 in
set_option maxHeartbeats 1000000 in
theorem formsC (w : World) : Calls Tryz.prog 51 #[] w fun e w' => ∃ L : List (Fin 5), L.Nodup ∧ (∀ k, k ∈ L) ∧ e = .returned (.map (some w.heap.size)) ∧ w' = mapW w.drew (L.map pr) := by
  go_enter Tryz.func51, Tryz.ntmps51
  go_wp2_with fail
  refine wp_region_any (by kernel_rfl) ?_
  refine forms_any w.drew _ (fun L hL hall => ?_) 11 false 0 [] rfl (by decide) List.nodup_nil (fun _ => rfl) (fun k hk => by cases hk)
  rw [aEnd_eq]
  go_wp2_with fail
  go_ret
  exact ⟨L, hL, hall, rfl, rfl⟩
end Go.Proofs.YtcdcmohccbhchaaGreatDoor

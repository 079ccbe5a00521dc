/- small; Own: the reference's command as the program's, its authors copied. -/
import Derived.Test.YtcdcmohccbhchaaGreatDoorKPut
import Derived.Test.YtcdcmohccbhchaaGreatDoorApp
namespace Go.Proofs.YtcdcmohccbhchaaGreatDoor
open Go.RowKit

def smallB (c : Cm) : Bool := decide (c.group.size ≤ 200) && (decide (c.mods.length ≤ 20) && decide (c.text.size ≤ 400))
theorem small_mods {c : Cm} (h : smallB c = true) : c.mods.length ≤ 20 ∧ c.text.size ≤ 400 ∧ c.group.size ≤ 200 := by
  unfold smallB at h
  simp only [Bool.and_eq_true, decide_eq_true_eq] at h
  exact ⟨h.2.1, h.2.2, h.1⟩
set_option maxRecDepth 100000 in
set_option maxHeartbeats 2000000 in
theorem smallC (c : Cm) (v : Value) (w : World) (hv : AutsAt w v c.mods) :
    Calls Tryz.prog 13 #[.agg (cmC c v).toArray] w fun e w' => e = .returned (.bool (smallB c)) ∧ Gr w w' := by
  have G0 := Lib.hid ((Gr.refl w).alloc (.cells (cmC c v).toArray 26))
  obtain ⟨a, cap, hsl, _⟩ := hv
  rw [List.length_map] at hsl
  subst hsl
  have HB : Hid (smallB c = (decide (c.group.size ≤ 200) && (decide (c.mods.length ≤ 20) && decide (c.text.size ≤ 400)))) := rfl
  generalize smallB c = r at *
  generalize c.mods.length = n at *
  by_cases h1 : c.group.size ≤ 200 <;> by_cases h2 : n ≤ 20 <;> by_cases h3 : c.text.size ≤ 400
  all_goals
    have i1 : decide ((c.group.size : Int) ≤ 200) = decide (c.group.size ≤ 200) := by rw [decide_eq_decide]; omega
    have i2 : decide ((n : Int) ≤ 20) = decide (n ≤ 20) := by rw [decide_eq_decide]; omega
    have i3 : decide ((c.text.size : Int) ≤ 400) = decide (c.text.size ≤ 400) := by rw [decide_eq_decide]; omega
    go_enter Tryz.func13, Tryz.ntmps13
    go_wp2_with fail
    all_goals
      go_ret
      refine ⟨ret_bool ?_, G0.out⟩
      rw [HB.out]
      simp_all

/-! ### a slice of one author -/
def bsR (P : Program) (t : TypeId) (n : Nat) (ps : Array (Nat × Value)) (w : World) : Result Next := (do pure (Next.value (← Instr.buildSlice t n ps)) : Sem Next).run P w
@[local go_sem ↓] theorem exec_bsl {P : Program} (ρ : Operand → Value) (d : Option Tmp) (ps : Array (Nat × Operand)) (ty : TypeId) (p : String) (af : Array Edge) (g : Option (Nat × Bool)) (w : World) :
    Sem.run P (execOp ρ ⟨d, .buildSlice 33 1 ps, ty, p, af, g⟩) w = bsR P 33 1 (ps.map fun x => (x.1, ρ x.2)) w := rfl
theorem bs_of {P : Program} {t : TypeId} {n : Nat} {ps : Array (Nat × Value)} {v : Value} {w w' : World} (h : (Instr.buildSlice t n ps).run P w = .ok v w') : bsR P t n ps w = .ok (.value v) w' := by simp [bsR, h]
theorem bSl1F (f : Nat → Value) (w : World) : (Instr.buildSlice 33 1 #[(0, .agg ((List.range 16).map f).toArray)]).run Tryz.prog w = .ok (.slice (some ⟨w.heap.size, 0, none⟩) 1 1) (w.alloc (.cells ((List.range 16).map f).toArray 52)) := by kernel_rfl
@[local go_sem] theorem kSl1 (y : Aut) (w : World) : bsR Tryz.prog 33 1 #[(0, .agg (bC y).toArray)] w = .ok (.value (.slice (some ⟨w.heap.size, 0, none⟩) 1 1)) (w.alloc (.cells (bC y).toArray 52)) := bs_of (by rw [bC_exp]; exact bSl1F _ w)
set_option maxRecDepth 100000 in
set_option maxHeartbeats 4000000 in
theorem ownC (c : Cm) (l : List Aut) (v : Value) (w : World) (hv : AutsAt w v l) (hl : l.length ≤ 1000000) :
    Calls Tryz.prog 15 #[.agg (cmC c v).toArray] w fun e w' => ∃ a n k, e = .returned (.agg (cmC c (.slice a n k)).toArray) ∧ AutsAt w' (.slice a n k) l ∧ Gr w w' := by
  obtain ⟨a, cap, rfl, hc, hj⟩ := hv
  have e1 : (l.map bC).length = l.length := by simp
  rw [e1] at hc ⊢
  have HI := Lib.hid (info_parts infoAut)
  have HJ := Lib.hid hj
  clear hj e1
  go_enter Tryz.func15, Tryz.ntmps15
  go_wp2_with fail
  go_loopw [3, 4, 5, 6, 7, 8, 9, 10, 11, 12, 13, 14, 15, 16, 17, 18, 19] (fun cv i _ _ _ _ _ _ _ _ _ _ _ _ _ _ _ wr => ∃ k : Nat, k ≤ l.length ∧ i = .int .i64 k ∧ Hid (Gr w wr) ∧ Hid (wr.heap[w.heap.size]? = some (.cells (cmC c (.slice a l.length cap)).toArray 26 (0, 0))) ∧ Hid (wr.heap[w.heap.size + 1]? = some (.cells (cmC (cm0 0) nilV).toArray 37 (0, 0))) ∧ Hid (wr.ownsRow (w.heap.size + 2) 52 16 cv k ((l.take k).map bC).flatten)) (fun _ i _ _ _ _ _ _ _ _ _ _ _ _ _ _ _ _ => l.length - (intOf i).toNat)
  case atStart => exact ⟨0, Nat.zero_le _, rfl, ((Gr.refl w).alloc _).alloc _, heap_alloc2_old w _ _, heap_alloc2_new w _ _, ⟨rfl, .inl ⟨rfl, rfl⟩⟩⟩
  case round =>
    obtain ⟨k, hk, rfl, hG, h3, h6, hown⟩ := hrel
    have s3 := (Array.getElem?_eq_some_iff.1 h3.out).1
    have s6 := (Array.getElem?_eq_some_iff.1 h6.out).1
    obtain ⟨c0, c33, c34, c35, c36, c37, c38, c39, r1, q1, r39, q39, r40, q40, r0, q0, z1⟩ := cm_facts h3.out
    by_cases hlt : k < l.length
    · obtain ⟨b, o, rfl, hb, p1, p2⟩ := HJ.out k (by simpa using hlt)
      have u1 := (hG.out.hasRow hb).trans p1
      have u2 := (hG.out.rowAt hb).trans p2
      rw [List.getElem_map] at u2
      have HTK : Hid (l.take (k + 1) = l.take k ++ [l[k]]) := List.take_succ_eq_append_getElem hlt
      have hbw : b < wr.heap.size := Nat.lt_of_lt_of_le hb hG.out.size
      have hk1 : (k : Int) < (l.length : Int) := by omega
      have hk2 : (0 : Int) ≤ (k : Int) := by omega
      clear p1 p2 r39 q39 r40 q40 r0 q0 r1 q1
      generalize l[k] = y at *
      have hnews : Hid (∀ j u, (bC y)[j]? = some u → (wr.alloc (.cells (bC y).toArray 52)).cell? ((⟨wr.heap.size, 0, none⟩ : Addr).add j) = some u) := by
        intro j u hu
        rw [Addr.add_lit, Nat.zero_add, World.cell?_alloc_new]; simpa using hu
      have hnl : Hid ((bC y).length = 1 * 16) := by show _ = _; rw [bC_length]
      have h1c : Hid (∀ u ∈ bC y, u.oneCell' = true) := fun u hu => List.all_eq_true.1 (oneB_bC y) u hu
      have O2 := Lib.hid (hown.out.alloc (.cells (bC y).toArray 52))
      obtain ⟨i0, hi, hz0, hz1, hz2⟩ := HI.out
      go_wp2_with (at_builtin; refine wpList_append_own _ rfl _ _ 33 rfl (w.heap.size + 2) 52 i0 _ 16 16 Tryz.underlying33 hi hz0 hz1 hz2 rfl (by decide) u3 k ((l.take k).map bC).flatten rfl O2.out ⟨wr.heap.size, 0, none⟩ 1 1 (bC y) rfl hnl.out hnews.out h1c.out (by unfold maxLen; omega) (by omega) (by simp; omega) ?_; intro v' w5 hown5 hgrow5 hnil5)
      go_roundw
      case rel =>
        have hbl : ∀ k', u3.ownBlock = some k' → w.heap.size + 2 ≤ k' := fun k' hk' => (O2.out.lt k' hk').1
        refine ⟨k + 1, by omega, by go_num, ?_, ?_, ?_, ?_⟩
        · exact (hG.out.alloc _).grown hgrow5 (fun k' hk' => by have := hbl k' hk'; omega)
        · exact (hgrow5.block _ (by simp; omega) (fun e => by have := hbl _ e.symm; omega)).trans ((((Gr.refl wr).alloc _).block (by omega)).trans h3.out)
        · exact (hgrow5.block _ (by simp; omega) (fun e => by have := hbl _ e.symm; omega)).trans ((((Gr.refl wr).alloc _).block (by omega)).trans h6.out)
        · show World.ownsRow _ _ _ _ _ _ _
          rw [HTK.out, List.map_append, List.flatten_append]
          simpa using hown5
      case measure => simp [intOf]; omega
    · have hk1 : ¬ (k : Int) < (l.length : Int) := by omega
      have hke : k = l.length := by omega
      have hsl : Hid (AutsAt wr u3 l) := by
        refine slAt_of_owns (base := w.heap.size + 2) (e := 52) (map_bC_len l) ?_
        rw [List.length_map, ← hke]
        have := hown.out
        rwa [List.take_of_length_le (by omega)] at this
      have HLT : Hid (∀ k', u3.ownBlock = some k' → w.heap.size + 2 ≤ k') := fun k' hk' => (hown.out.lt k' hk').1
      obtain ⟨a', c', rfl, _⟩ := owns_slice hown.out
      clear hown hke
      have f6 := freeRow_block h6.out 0 56
      have g6 := hasRow_block h6.out 0 56 (by rw [cmC_length]; decide)
      clear r0 q0 r39 q39
      go_wp2_with fail
      have hw := sets_whole (cs := cmC c (.slice a' k c')) h6.out (by rw [cmC_length, cmC_length])
      refine bodyPost_ret (v := .agg (cmC c (.slice a' k c')).toArray) (results_cell_row rfl _ _ (w.heap.size + 1) _ _ _ _ rfl hw Tryz.underlying37 rfl (by rw [List.size_toArray, cmC_length]; kernel_rfl)) rfl ?_
      refine ⟨a', k, c', rfl, hsl.out.keep (fun x hx => ?_) ?_, ?_⟩
      · have := HLT.out x.block (by rw [hx]; rfl)
        exact sets_other (by omega) _ _ _
      · rw [sets_size]; exact Nat.le_refl _
      · exact Gr.of_grownBy (grown_sets (b := w.heap.size + 1) (w := w) (by omega) _ 0 _ hG.out.grownBy)
end Go.Proofs.YtcdcmohccbhchaaGreatDoor

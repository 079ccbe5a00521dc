/- slices.MinFunc at cancellations. -/
import Derived.Test.YtemhfcfebkjioaaGreatDoorCounts
namespace Go.Proofs.YtemhfcfebkjioaaGreatDoor
open Go.RowKit

/-- The zero cells of a cancellation and of a row. -/
noncomputable def zCanc : List Value := Tryz.zeroCells27.toList
noncomputable def zRw : List Value := Tryz.zeroCells31.toList
@[go_sem] theorem zCanc_eq : Tryz.zeroCells27 = zCanc.toArray := by unfold zCanc; simp
@[go_sem] theorem zRw_eq : Tryz.zeroCells31 = zRw.toArray := by unfold zRw; simp
@[go_sem] theorem zCanc_len : zCanc.length = 81 := by kernel_rfl
@[go_sem] theorem zRw_len : zRw.length = 83 := by kernel_rfl

def CancsAt (w : World) (v : Value) (l : List Canc) : Prop := SlAt w v 81 (l.map cancC)
theorem CancsAt.gr {w w' : World} {v : Value} {l : List Canc} (h : CancsAt w v l) (hg : Gr w w') : CancsAt w' v l := SlAt.gr h hg
/-- The first of the least. -/
def minFrom (m : Canc) (l : List Canc) : Canc := l.foldl (fun m y => if cfC y m < 0 then y else m) m
def minTo (x : Canc) (l : List Canc) (k : Nat) : Canc := minFrom x (l.take k)
theorem minTo_succ (x : Canc) (l : List Canc) (k : Nat) (h : k < l.length) : minTo x l (k + 1) = if cfC l[k] (minTo x l k) < 0 then l[k] else minTo x l k := by
  unfold minTo minFrom; rw [List.take_succ_eq_append_getElem h, List.foldl_append]; rfl
def MinPost (m : Canc) (w : World) (e : Ending) (w' : World) : Prop := e = .returned (.agg (cancC m).toArray) ∧ Gr w w'

set_option maxRecDepth 100000 in
set_option maxHeartbeats 4000000 in
theorem minFunc (x0 : Canc) (l : List Canc) (v : Value) (w : World) (hv : CancsAt w v (x0 :: l)) (hl : l.length ≤ 1000000) :
    Calls Tryz.prog 39 #[v, .func (.func 40) #[] #[]] w (MinPost (minFrom x0 l) w) := by
  have eg : ∀ args w, (callFunc 40 args).run Tryz.prog w = .ok (.enter 40 args) w := enters_of Tryz.func40 (by kernel_rfl) rfl
  obtain ⟨a, cap, rfl, hc, hj⟩ := hv
  obtain ⟨b, o, rfl, hb, hall⟩ := slAt_block (by simp) hj
  have e1 : ((x0 :: l).map cancC).length = l.length + 1 := by simp
  rw [e1] at hc ⊢
  have hA : Hid (∀ j (hj : j < l.length + 1), hasRow w ⟨b, o + j * 81, none⟩ 81 = true ∧ rowAt w ⟨b, o + j * 81, none⟩ 81 = cancC ((x0 :: l)[j]'(by simpa using hj))) := fun j hj' => by
    obtain ⟨h1, h2⟩ := hall j (by simpa using hj')
    exact ⟨h1, by rw [h2, List.getElem_map]⟩
  obtain ⟨r0, r1⟩ := hA.out 0 (by omega)
  simp only [Nat.zero_mul, Nat.add_zero, List.getElem_cons_zero] at r0 r1
  clear hj hall e1
  have hi0 : (0 : Int) < (l.length : Int) + 1 := by omega
  go_enter Tryz.func39, Tryz.ntmps39
  go_wp2_with fail
  have hs := box2 w 27 zCanc (cancC x0)
  generalize (w.alloc (.cells zCanc.toArray 27)).alloc (.cells (cancC x0).toArray 27) = W at *
  obtain ⟨hl0, hs2, hb4, hb5⟩ := hs
  have GL := Lib.hid hl0.1
  have B4 := Lib.hid hb4; have B5 := Lib.hid hb5
  clear hl0 hs2 hb4 hb5 r0 r1
  go_loopw [6, 14, 16, 17, 18, 19, 20, 21, 22, 23, 24, 25, 26, 27, 28, 29, 30, 31] (fun i _ _ _ _ _ _ _ _ _ _ _ _ _ _ _ _ _ wr => ∃ k : Nat, k ≤ l.length ∧ i = .int .i64 (k + 1) ∧ Hid (Gr w wr) ∧ Hid (wr.heap[w.heap.size]? = some (.cells zCanc.toArray 27 (0, 0))) ∧ Hid (wr.heap[w.heap.size + 1]? = some (.cells (cancC (minTo x0 l k)).toArray 27 (0, 0)))) (fun i _ _ _ _ _ _ _ _ _ _ _ _ _ _ _ _ _ _ => l.length + 1 - (intOf i).toNat)
  case atStart => exact ⟨0, Nat.zero_le _, rfl, GL.out, B4.out, B5.out⟩
  case round =>
    obtain ⟨k, hk, rfl, hG, h4, h5⟩ := hrel
    clear GL B4 B5
    have t1 := hasRow_block h5.out 0 81 (by rw [cancC_length]; decide)
    have t2 := (rowAt_block h5.out 0 81 (by rw [cancC_length]; decide)).trans (canc_whole _)
    have t3 := freeRow_block h5.out 0 81
    have s5 := (Array.getElem?_eq_some_iff.1 h5.out).1
    by_cases hlt : k < l.length
    · obtain ⟨q1, q2⟩ := hA.out (k + 1) (by omega)
      have HS := Lib.hid (minTo_succ x0 l k hlt)
      simp only [List.getElem_cons_succ] at q2
      have u1 := (hG.out.hasRow (k := o + (k + 1) * 81) (n := 81) hb).trans q1
      have u2 := (hG.out.rowAt (k := o + (k + 1) * 81) (n := 81) hb).trans q2
      have hbw : b < wr.heap.size := Nat.lt_of_lt_of_le hb hG.out.size
      clear q1 q2
      generalize l[k] = y at *
      have hk1 : (k : Int) + 1 < (l.length : Int) + 1 := by omega
      have hk2 : (0 : Int) ≤ (k : Int) + 1 := by omega
      have hk3 : ((k : Int) + 1).toNat = k + 1 := by omega
      generalize hm : minTo x0 l k = m at *
      go_wp2_with fail
      refine wp_region_lay (by kernel_rfl) (by kernel_rfl) ?_
      repeat (go_big_quiet_step ((go_at_call 40; exact lay_call (byCmp y m _))))
      refine wpQuiet_nil ?_
      rintro _ ⟨p, rfl⟩
      have hU := (lay_lw wr p).1
      have GU := Lib.hid (hG.out.trans hU)
      have U4 := Lib.hid ((hU.block (Array.getElem?_eq_some_iff.1 h4.out).1).trans h4.out)
      have U5 := Lib.hid ((hU.block s5).trans h5.out)
      have v1 := (hU.hasRow hbw).trans u1
      have v2 := (hU.rowAt hbw).trans u2
      have hbU : b < (lw wr p).heap.size := Nat.lt_of_lt_of_le hbw hU.size
      generalize lw wr p = U at *
      clear t1 t2 t3 s5 u1 u2 hbw hU hG h4 h5
      have t1 := hasRow_block U5.out 0 81 (by rw [cancC_length]; decide)
      have t3 := freeRow_block U5.out 0 81
      by_cases hcf : cfC y m < 0
      · have hd : decide (cfC y m < 0) = true := by simpa using hcf
        have HM : Hid (minTo x0 l (k + 1) = y) := by show _ = _; rw [HS.out, if_pos hcf]
        go_wp2_with fail
        go_roundw
        case rel => exact ⟨k + 1, by omega, by go_num, Gr.setCells _ (by omega) _ _ _ GU.out, (heap_setCells_ne _ _ (by omega) _ _ _).trans U4.out, by show _ = _; rw [HM.out]; exact heap_setCells_at U5.out (by rw [cancC_length, cancC_length])⟩
        case measure => simp [intOf]; omega
      · have hd : decide (cfC y m < 0) = false := by simpa using hcf
        have HM : Hid (minTo x0 l (k + 1) = m) := by show _ = _; rw [HS.out, if_neg hcf]
        go_wp2_with fail
        go_roundw
        case rel => exact ⟨k + 1, by omega, by go_num, GU.out, U4.out, by show _ = _; rw [HM.out]; exact U5.out⟩
        case measure => simp [intOf]; omega
    · have hm : Hid (minTo x0 l k = minFrom x0 l) := by show _ = _; unfold minTo; rw [List.take_of_length_le (by omega)]
      rw [hm.out] at t2 h5
      have q1 := hasRow_block h4.out 0 81 (by rw [zCanc_len]; decide)
      have q2 := freeRow_block h4.out 0 81
      have s4 := (Array.getElem?_eq_some_iff.1 h4.out).1
      have hk1 : ¬ ((k : Int) + 1 < (l.length : Int) + 1) := by omega
      go_wp2_with fail
      have hw := heap_setCells_at (cs := cancC (minFrom x0 l)) h4.out (by rw [cancC_length, zCanc_len])
      refine bodyPost_ret (v := .agg (cancC (minFrom x0 l)).toArray) (results_cell_row rfl _ _ w.heap.size _ _ _ _ rfl hw Tryz.underlying27 rfl (by rw [List.size_toArray, cancC_length]; kernel_rfl)) rfl ?_
      exact ⟨rfl, Gr.setCells _ (Nat.le_refl _) _ _ _ hG.out⟩
end Go.Proofs.YtemhfcfebkjioaaGreatDoor

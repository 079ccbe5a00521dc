/- Tombs: Clone and Equal. -/
import Derived.Test.YtemhfcfebkjioaaGreatDoorTBuild
namespace Go.Proofs.YtemhfcfebkjioaaGreatDoor
open Go.RowKit

theorem setCells_alloc (v : World) (o : Obj) (b : Nat) (hb : b < v.heap.size) : ∀ (cs : List Value) (k : Nat) (w : World), w.heap.size = v.heap.size → (w.alloc o).setCells b k cs = (w.setCells b k cs).alloc o
  | [], _, _, _ => rfl
  | c :: cs, k, w, hw => by
    show ((w.alloc o).setCell ⟨b, k, none⟩ c).setCells b (k + 1) cs = ((w.setCell ⟨b, k, none⟩ c).setCells b (k + 1) cs).alloc o
    have e : (w.alloc o).setCell ⟨b, k, none⟩ c = (w.setCell ⟨b, k, none⟩ c).alloc o := by
      unfold World.setCell World.alloc
      simp only []
      congr 1
      apply Array.ext_getElem?
      intro i
      rw [Array.getElem?_modify, Array.getElem?_push, Array.getElem?_push, Array.getElem?_modify, Array.size_modify]
      by_cases hi : i = w.heap.size
      · rw [if_neg (by omega), if_pos hi, if_pos hi]
      · rw [if_neg hi, if_neg hi]
    rw [e]
    exact setCells_alloc v o b hb cs (k + 1) _ (by rw [← hw]; simp [World.setCell])
/-- A block that is laid whole, under another. -/
theorem setCells_two (w : World) (t : TypeId) (o : Obj) (b : Nat) (z cs : List Value) (hb : b = w.heap.size) (hz : cs.length = z.length) : ((w.alloc (.cells z.toArray t)).alloc o).setCells b 0 cs = (w.alloc (.cells cs.toArray t)).alloc o := by
  rw [setCells_alloc (w.alloc (.cells z.toArray t)) o b (by simp; omega) cs 0 _ rfl, setCells_whole w t b z cs hb hz]
attribute [local go_sem] setCells_two
theorem Tmb.perm {w : World} {bm n : Nat} {D : DataW Value} {l l' : List Canc} (h : Tmb w bm n D l) (hp : l.Perm l') : Tmb w bm n D l' :=
  ⟨h.own, fun k => by rw [h.has]; exact ⟨fun ⟨y, hy, e⟩ => ⟨y, hp.mem_iff.1 hy, e⟩, fun ⟨y, hy, e⟩ => ⟨y, hp.mem_iff.2 hy, e⟩⟩, fun y hy z => h.elem y (hp.mem_iff.2 hy) z, by rw [h.size, hp.length_eq], (hp.pairwise_iff (fun {_ _} h => Ne.symm h)).1 h.apart⟩
theorem out_new {l : List Canc} {left : Lit → Bool} {acc : List Canc} (hap : l.Pairwise fun y y' => y.id ≠ y'.id) (h : OutRel l left acc) {e : Canc} (he : e ∈ l) (hl : left (kl e.id) = true) : hasId acc e.id = false := by
  unfold hasId; rw [List.any_eq_false]
  intro y hy q
  have hy' := (h.2.1 y).1 hy
  have : y = e := apart_eq hap hy'.1 he (by simpa using q)
  rw [this, hl] at hy'; cases hy'.2
set_option maxRecDepth 100000 in
theorem Tmb.lookIn {w : World} {bm n : Nat} {D : DataW Value} {l : List Canc} (h : Tmb w bm n D l) (y : Canc) (hy : y ∈ l) : (Instr.lookup 103 (.map (some bm)) (.agg (bC y.id).toArray) true).run Tryz.prog w = .ok (.tuple #[.agg (cancC y).toArray, .bool true]) w := by
  obtain ⟨v, ps, hrun, hR⟩ := h.own.look_ok kId Tryz.underlying103 (zeroCancV w) (cR_mk canc0) (kl_spec y.id)
  obtain ⟨dx, rfl⟩ := cR_inv hR
  rw [h.hasI, show hasId l y.id = true from by unfold hasId; rw [List.any_eq_true]; exact ⟨y, hy, by simp⟩] at hrun
  have e1 := cR_eq hR
  rw [h.elem y hy] at e1
  have e2 := cancC_inj (List.toArray_inj (Value.agg.inj (DataW.held.inj e1)))
  subst e2; exact hrun
theorem neq_canc (x : Canc) (w : World) : Sem.run Tryz.prog (binOp .neq 27 (.agg (cancC x).toArray) (.agg (cancC x).toArray)) w = .ok (.bool false) w := by
  rw [run_neq_struct, eqCanc, (cancEq_iff x x).2 rfl]; rfl
set_option maxRecDepth 100000 in
set_option maxHeartbeats 2000000 in
theorem copyC (bd bs : Nat) (cs : List Canc) (Dd Ds : DataW Value) (w : World) (hd : Tmb w bd 0 Dd []) (hs : Tmb w bs cs.length Ds cs) (hne : bd ≠ bs) (hl : cs.length ≤ 900) :
    Calls Tryz.prog 49 #[.map (some bd), .map (some bs)] w fun e w' => e = .returned (.tuple #[]) ∧ (∃ D', Tmb w' bd cs.length D' cs) ∧ w.grownBy w' (some bd) := by
  have HD := Lib.hid hd; have HS := Lib.hid hs
  have zd := hd.own.lt; have zs := hs.own.lt
  clear hd hs
  go_enter Tryz.func49, Tryz.ntmps49
  go_wp2_with (at_range; refine wpList_range_own _ rfl _ 103 rfl 23 27 kId Tryz.underlying103 cR bs cs.length Ds rfl HS.out.own ?_; intro w0 hrg0 hg0 hs0)
  go_frame
  have HR0 := Lib.hid hrg0; have HG0 := Lib.hid hg0
  clear hrg0 hg0 hs0
  go_loopw [4, 5, 8, 9, 10, 11, 12, 13, 14, 15] (fun _ _ _ _ _ _ _ _ _ _ wr => ∃ left cnt ps, Hid (wr.ranges Tryz.prog 23 cR bs w.heap.size cs.length Ds left cnt) ∧ Hid (∃ D', Tmb wr bd ps.length D' ps) ∧ Hid (OutRel cs left ps) ∧ ps.length + cnt ≤ cs.length ∧ Hid (w.grownBy wr (some bd))) (fun _ _ _ _ _ _ _ _ _ _ wr => wr.rangeLeft bs w.heap.size)
  case atStart => exact ⟨_, _, [], HR0.out, ⟨_, HD.out.kept HG0.out (by simp)⟩, out_start HS.out, by rw [HS.out.size]; simp, HG0.out.but _⟩
  case round =>
    obtain ⟨left, cnt, ps, hrg, hown, hout, hcnt, hG⟩ := hrel
    clear HR0 HG0
    go_wp2_with (at_next; refine wpList_next_ranges _ rfl _ rfl 23 kId cR (fun v : Value => v) (fun d : Canc => .agg (cancC d).toArray) (fun key _ _ => ⟨key, rfl⟩) (fun _ _ h => cR_inv h) bs w.heap.size cs.length Ds left cnt rfl hrg.out ?_ ?_)
    · intro hc0 hl0
      have HP := Lib.hid (out_end HS.out.apart hout.out hl0)
      clear hc0 hl0
      go_wp2_with fail
      go_end0
      obtain ⟨D', hD'⟩ := hown.out
      exact ⟨rfl, ⟨D', by have := hD'.perm HP.out; rwa [HP.out.length_eq] at this⟩, hG.out⟩
    · intro key c k0 yd yp w1 cnt1 hkey hlx hv hat hrg1 hlt hg1 hs1 hen
      obtain ⟨en, hmem, rfl⟩ := hout.out.1 k0 hlx
      obtain rfl : c = en := by
        have h1 := hat (.held undef)
        have h2 : yd = .held (.agg (cancC c).toArray) := cR_eq hv
        rw [HS.out.elem en hmem, h2] at h1
        injection h1 with h1
        exact cancC_inj (List.toArray_inj (Value.agg.inj h1)).symm
      obtain rfl : key = .agg (bC c.id).toArray := kId.inj hkey (kl_spec c.id)
      have HNEW := Lib.hid (out_new HS.out.apart hout.out hmem hlx)
      have HSTEP := Lib.hid (out_step HS.out.apart hout.out hmem hlx)
      obtain ⟨D', hD'⟩ := hown.out
      have g2 := ((Gr.refl w1).alloc (.cells (bC c.id).toArray 23)).alloc (.cells (cancC c).toArray 27)
      have D2 := ((hD'.kept hg1 (fun e => by have := Option.some.inj e; omega)).gr g2)
      obtain ⟨w5, hst, ⟨D5, hD5⟩, ht5⟩ := D2.store (by omega) c HNEW.out
      have R1 := Lib.hid ((hrg1.alloc (.cells (bC c.id).toArray 23)).alloc (.cells (cancC c).toArray 27))
      have GW := Lib.hid ((hG.out.andThen hg1 (fun j hj => .inl (by cases hj; exact Nat.le_refl _))).andThen (g2.grownBy.but (some bd)) (fun j hj => .inr hj))
      have B1 := heap_alloc2_old w1 (.cells (bC c.id).toArray 23) (.cells (cancC c).toArray 27)
      have B2 := heap_alloc2_new w1 (.cells (bC c.id).toArray 23) (.cells (cancC c).toArray 27)
      have r1 := hasRow_block B1 0 32 (by rw [bC_length]; decide)
      have r2 := rowAt_block B1 0 32 (by rw [bC_length]; decide)
      rw [show rowOf (bC c.id) 0 32 = bC c.id from by unfold rowOf; rw [List.drop_zero, List.take_of_length_le (by rw [bC_length]; decide)]] at r2
      have r3 := hasRow_block B2 0 81 (by rw [cancC_length]; decide)
      have r4 := (rowAt_block B2 0 81 (by rw [cancC_length]; decide)).trans (canc_whole c)
      have HD5 := Lib.hid hD5; have HT5 := Lib.hid ht5
      have hcl : Hid (cnt1 < cnt) := hlt
      have HML := Lib.hid hrg.out.left_eq
      clear hkey hlx hv hat hrg1 hlt hg1 hs1 hmem hown hrg hD' D2 hD5 ht5 B1 B2 g2 hout hG
      go_wp2_with fail
      have hgr := HT5.out.grown
      have hrg5 := R1.out.kept hgr (fun e => hne (Option.some.inj e).symm) (fun e => by have := Option.some.inj e; omega)
      go_roundw
      case rel => exact ⟨_, cnt1, ps ++ [c], hrg5, ⟨D5, by rw [List.length_append]; exact HD5.out⟩, HSTEP.out, by rw [List.length_append]; have := hcl.out; simp; omega, GW.out.andThen hgr (fun j hj => .inr hj)⟩
      case measure => rw [hrg5.left_eq, HML.out]; exact hcl.out
/-- Of another number: not equal. -/
theorem equalM_ne (b1 b2 : Nat) (l1 l2 : List Canc) (D1 D2 : DataW Value) (w : World) (h1 : Tmb w b1 l1.length D1 l1) (h2 : Tmb w b2 l2.length D2 l2) (hne : l1.length ≠ l2.length) :
    Calls Tryz.prog 50 #[.map (some b1), .map (some b2)] w fun e w' => e = .returned (.bool false) ∧ Gr w w' := by
  have hl1 := h1.own.len Tryz.underlying103 3
  have hl2 := h2.own.len Tryz.underlying103 3
  rw [h1.size] at hl1
  rw [h2.size] at hl2
  have hx : ((l1.length : Int) != (l2.length : Int)) = true := by simp; omega
  clear h1 h2 hne
  go_enter Tryz.func50, Tryz.ntmps50
  go_wp2_with fail
  go_ret
  exact ⟨rfl, Gr.refl w⟩
set_option maxRecDepth 100000 in
set_option maxHeartbeats 2000000 in
/-- The same cancellations: equal. -/
theorem equalM_same (b1 b2 : Nat) (l : List Canc) (D1 D2 : DataW Value) (w : World) (h1 : Tmb w b1 l.length D1 l) (h2 : Tmb w b2 l.length D2 l) :
    Calls Tryz.prog 50 #[.map (some b1), .map (some b2)] w fun e w' => e = .returned (.bool true) ∧ Gr w w' := by
  have HD1 := Lib.hid h1; have HD2 := Lib.hid h2
  have hl1 := h1.own.len Tryz.underlying103 3
  have hl2 := h2.own.len Tryz.underlying103 3
  rw [h1.size] at hl1
  rw [h2.size] at hl2
  clear h1 h2
  go_enter Tryz.func50, Tryz.ntmps50
  go_wp2_with (at_range; refine wpList_range_own _ rfl _ 103 rfl 23 27 kId Tryz.underlying103 cR b1 l.length D1 rfl HD1.out.own ?_; intro w0 hrg0 hg0 hs0)
  go_frame
  have HR0 := Lib.hid hrg0; have HG0 := Lib.hid (Gr.of_grownBy hg0)
  clear hrg0 hg0 hs0 hl1 hl2
  go_loopw [5, 6, 7, 8, 16, 17, 18, 19, 20, 21, 22, 23, 24, 25, 26, 27, 28, 29, 30, 31, 32, 33] (fun _ _ _ _ _ _ _ _ _ _ _ _ _ _ _ _ _ _ _ _ _ _ wr => ∃ left cnt, Hid (wr.ranges Tryz.prog 23 cR b1 w.heap.size l.length D1 left cnt) ∧ Hid (∀ k, left k = true → ∃ y ∈ l, k = kl y.id) ∧ Hid (Gr w wr)) (fun _ _ _ _ _ _ _ _ _ _ _ _ _ _ _ _ _ _ _ _ _ _ wr => wr.rangeLeft b1 w.heap.size)
  case atStart => exact ⟨_, _, HR0.out, fun k hk => (HD1.out.has k).1 hk, HG0.out⟩
  case round =>
    obtain ⟨left, cnt, hrg, hleft, hG⟩ := hrel
    clear HR0 HG0
    go_wp2_with (at_next; refine wpList_next_ranges _ rfl _ rfl 23 kId cR (fun v : Value => v) (fun d : Canc => .agg (cancC d).toArray) (fun key _ _ => ⟨key, rfl⟩) (fun _ _ h => cR_inv h) b1 w.heap.size l.length D1 left cnt rfl hrg.out ?_ ?_)
    · intro hc0 hl0
      clear hc0 hl0
      go_wp2_with fail
      go_ret
      exact ⟨rfl, hG.out⟩
    · intro key c k0 yd yp w1 cnt1 hkey hlx hv hat hrg1 hlt hg1 hs1 hen
      obtain ⟨en, hmem, rfl⟩ := hleft.out k0 hlx
      obtain rfl : c = en := by
        have h1 := hat (.held undef)
        have h2 : yd = .held (.agg (cancC c).toArray) := cR_eq hv
        rw [HD1.out.elem en hmem, h2] at h1
        injection h1 with h1
        exact cancC_inj (List.toArray_inj (Value.agg.inj h1)).symm
      obtain rfl : key = .agg (bC c.id).toArray := kId.inj hkey (kl_spec c.id)
      have G1 := Lib.hid (hG.out.grown hg1 (fun k hk => by cases hk; exact Nat.le_refl _))
      have g2 := ((Gr.refl w1).alloc (.cells (bC c.id).toArray 23)).alloc (.cells (cancC c).toArray 27)
      have hlook := (HD2.out.gr (G1.out.trans g2)).lookIn c hmem
      have R1 := Lib.hid ((hrg1.alloc (.cells (bC c.id).toArray 23)).alloc (.cells (cancC c).toArray 27))
      have B1 := heap_alloc2_old w1 (.cells (bC c.id).toArray 23) (.cells (cancC c).toArray 27)
      have B2 := heap_alloc2_new w1 (.cells (bC c.id).toArray 23) (.cells (cancC c).toArray 27)
      have r1 := hasRow_block B1 0 32 (by rw [bC_length]; decide)
      have r2 := rowAt_block B1 0 32 (by rw [bC_length]; decide)
      rw [show rowOf (bC c.id) 0 32 = bC c.id from by unfold rowOf; rw [List.drop_zero, List.take_of_length_le (by rw [bC_length]; decide)]] at r2
      have hlt2 : w1.heap.size + 1 < ((w1.alloc (.cells (bC c.id).toArray 23)).alloc (.cells (cancC c).toArray 27)).heap.size := by simp
      have B3 := (((Gr.refl _).alloc (.cells (cancC c).toArray 27)).block hlt2).trans B2
      have r3 := hasRow_block B3 0 81 (by rw [cancC_length]; decide)
      have r4 := (rowAt_block B3 0 81 (by rw [cancC_length]; decide)).trans (canc_whole c)
      have hneq := fun W => neq_canc c W
      have G3 := Lib.hid ((G1.out.trans g2).alloc (.cells (cancC c).toArray 27))
      have R3 := Lib.hid (R1.out.alloc (.cells (cancC c).toArray 27))
      have hcl : Hid (cnt1 < cnt) := hlt
      have HML := Lib.hid hrg.out.left_eq
      have HL2 : Hid (∀ k, (left k && !k.sameKey (kl c.id)) = true → ∃ y ∈ l, k = kl y.id) := fun k hk => hleft.out k (by simp at hk; exact hk.1)
      clear hkey hlx hv hat hrg1 hlt hg1 hs1 hmem hrg B1 B2 B3 g2 hlt2 hleft
      go_wp2_with fail
      go_roundw
      case rel => exact ⟨_, cnt1, R3.out, HL2.out, G3.out⟩
      case measure => rw [R3.out.left_eq, HML.out]; exact hcl.out
def CloneTPost (l : List Canc) (w : World) (e : Ending) (w' : World) : Prop := ∃ bt bm, e = .returned (.pointer (some ⟨bt, 0, none⟩)) ∧ TmAt w' w.heap.size bt bm l ∧ Gr w w'
theorem TmAt.ne {w : World} {n bt bm n' bt' bm' : Nat} {l l' : List Canc} (h : TmAt w n bt bm l) (h' : TmAt w n' bt' bm' l') : bt ≠ bm' := fun e => by
  obtain ⟨_, _, h3, _⟩ := h
  obtain ⟨_, _, _, D, hD⟩ := h'
  obtain ⟨es, clock, hb, _⟩ := hD.own
  rw [e, hb] at h3; cases h3
set_option maxRecDepth 100000 in
set_option maxHeartbeats 2000000 in
theorem cloneT (n bt bm : Nat) (l : List Canc) (w : World) (h : TmAt w n bt bm l) (hl : l.length ≤ 900) : Calls Tryz.prog 27 #[.pointer (some ⟨bt, 0, none⟩)] w (CloneTPost l w) := by
  have HT := Lib.hid h
  clear h
  go_enter Tryz.func27, Tryz.ntmps27
  go_wp2_with fail
  refine (newT w).mono ?_
  rintro e w1 ⟨bt', bm', rfl, hT', hg1⟩
  have T1 := Lib.hid (HT.out.gr hg1)
  have T2 := Lib.hid hT'
  have G1 := Lib.hid hg1
  have m1 := T1.out.cell
  have m2 := T2.out.cell
  have s1 := World.block_lt_of_cell? _ _ m1
  have s2 := World.block_lt_of_cell? _ _ m2
  have hne : Hid (bm' ≠ bm) := fun e => by
    have h1 := hT'.2.1
    obtain ⟨_, _, _, D, hD⟩ := HT.out
    have := hD.own.lt
    omega
  clear hT' hg1
  go_wp2_with fail
  refine wp_region_tail 8 (fun u => ∃ p : LD, u = lw w1 p) (by kernel_rfl) (by kernel_rfl) (cl_drew w1) ?_
  simp only [List.take_succ_cons, List.take_zero, List.drop_succ_cons, List.drop_zero]
  repeat (go_big_quiet_step (fail))
  refine wpQuiet_nil ?_
  rintro _ ⟨p, rfl⟩
  have GU := Lib.hid (lay_lw w1 p).1
  clear m1 m2
  generalize lw w1 p = U at *
  obtain ⟨_, _, hb2, D2, hD2⟩ := T2.out.gr GU.out
  obtain ⟨_, _, hb1, D1, hD1⟩ := T1.out.gr GU.out
  have HC := Lib.hid (copyC bm' bm l D2 D1 U hD2 hD1 hne.out hl)
  have HB2 := Lib.hid hb2
  clear hb1 hb2 hD1 hD2
  go_wp2_with fail
  refine HC.out.mono ?_
  rintro e w2 ⟨rfl, hD', hg2⟩
  have HD' := Lib.hid hD'; have HG2 := Lib.hid hg2
  clear hD' hg2 HC
  go_wp2_with fail
  go_ret
  refine ⟨bt', bm', rfl, ⟨T2.out.1, T2.out.2.1, (HG2.out.block bt' (Array.getElem?_eq_some_iff.1 HB2.out).1 (fun e => T2.out.ne T2.out (Option.some.inj e))).trans HB2.out, HD'.out⟩, (G1.out.trans GU.out).grown HG2.out (fun k hk => by cases hk; exact T2.out.2.1)⟩
set_option maxRecDepth 100000 in
set_option maxHeartbeats 2000000 in
theorem equalT (b : Bool) (bt1 bm1 bt2 bm2 : Nat) (w : World) (m1 : w.cell? ⟨bt1, 0, none⟩ = some (.map (some bm1))) (m2 : w.cell? ⟨bt2, 0, none⟩ = some (.map (some bm2)))
    (hM : ∀ W, Gr w W → Calls Tryz.prog 50 #[.map (some bm1), .map (some bm2)] W fun e w' => e = .returned (.bool b) ∧ Gr W w') :
    Calls Tryz.prog 28 #[.pointer (some ⟨bt1, 0, none⟩), .pointer (some ⟨bt2, 0, none⟩)] w fun e w' => e = .returned (.bool b) ∧ Gr w w' := by
  have HM := Lib.hid hM
  have s1 := World.block_lt_of_cell? _ _ m1
  have s2 := World.block_lt_of_cell? _ _ m2
  clear hM
  go_enter Tryz.func28, Tryz.ntmps28
  go_wp2_with fail
  refine wp_region_tail 8 (fun u => ∃ p : LD, u = lw w p) (by kernel_rfl) (by kernel_rfl) (cl_drew w) ?_
  simp only [List.take_succ_cons, List.take_zero, List.drop_succ_cons, List.drop_zero]
  repeat (go_big_quiet_step (fail))
  refine wpQuiet_nil ?_
  rintro _ ⟨p, rfl⟩
  have GU := Lib.hid (lay_lw w p).1
  clear m1 m2
  generalize lw w p = U at *
  go_wp2_with fail
  refine (HM.out U GU.out).mono ?_
  rintro e w2 ⟨rfl, hg2⟩
  go_wp2_with fail
  go_ret
  exact ⟨rfl, GU.out.trans hg2⟩
theorem equalT_same (n1 n2 bt1 bm1 bt2 bm2 : Nat) (l : List Canc) (w : World) (h1 : TmAt w n1 bt1 bm1 l) (h2 : TmAt w n2 bt2 bm2 l) :
    Calls Tryz.prog 28 #[.pointer (some ⟨bt1, 0, none⟩), .pointer (some ⟨bt2, 0, none⟩)] w fun e w' => e = .returned (.bool true) ∧ Gr w w' := by
  refine equalT true bt1 bm1 bt2 bm2 w h1.cell h2.cell fun W hg => ?_
  obtain ⟨_, _, _, D1, hD1⟩ := h1
  obtain ⟨_, _, _, D2, hD2⟩ := h2
  exact equalM_same bm1 bm2 l D1 D2 W (hD1.gr hg) (hD2.gr hg)
theorem equalT_ne (n1 n2 bt1 bm1 bt2 bm2 : Nat) (l1 l2 : List Canc) (w : World) (h1 : TmAt w n1 bt1 bm1 l1) (h2 : TmAt w n2 bt2 bm2 l2) (hne : l1.length ≠ l2.length) :
    Calls Tryz.prog 28 #[.pointer (some ⟨bt1, 0, none⟩), .pointer (some ⟨bt2, 0, none⟩)] w fun e w' => e = .returned (.bool false) ∧ Gr w w' := by
  refine equalT false bt1 bm1 bt2 bm2 w h1.cell h2.cell fun W hg => ?_
  obtain ⟨_, _, _, D1, hD1⟩ := h1
  obtain ⟨_, _, _, D2, hD2⟩ := h2
  exact equalM_ne bm1 bm2 l1 l2 D1 D2 W (hD1.gr hg) (hD2.gr hg) hne
end Go.Proofs.YtemhfcfebkjioaaGreatDoor

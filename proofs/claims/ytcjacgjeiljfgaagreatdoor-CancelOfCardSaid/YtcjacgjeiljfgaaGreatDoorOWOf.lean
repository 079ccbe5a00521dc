/- The law CancelOf: for every input it returns true. -/
import Derived.Test.YtcjacgjeiljfgaaGreatDoorBO
import Derived.Test.YtcjacgjeiljfgaaGreatDoorCB
namespace Go.Proofs.YtcjacgjeiljfgaaGreatDoor
open Go.RowKit

theorem of_facts {W : World} {b : Nat} {id t : Id} {c : Ctt} (u0 : W.heap[b]? = some (.cells (bC id).toArray 23)) (u1 : W.heap[b + 1]? = some (.cells (cttC c).toArray 31)) (u2 : W.heap[b + 1 + 1]? = some (.cells (bC t).toArray 23)) :
    (rowAt W ⟨b, 0, none⟩ 32 = bC id ∧ hasRow W ⟨b, 0, none⟩ 32 = true ∧ rowAt W ⟨b + 1, 1, none⟩ 16 = bC c.author ∧ hasRow W ⟨b + 1, 1, none⟩ 16 = true ∧ W.cell? ⟨b + 1, 17, none⟩ = some (.int .i64 c.date)) ∧
    rowAt W ⟨b + 1 + 1, 0, none⟩ 32 = bC t ∧ hasRow W ⟨b + 1 + 1, 0, none⟩ 32 = true ∧ rowAt W ⟨b + 1, 0, none⟩ 75 = cttC c ∧ hasRow W ⟨b + 1, 0, none⟩ 75 = true ∧ W.cell? ⟨b + 1, 53, none⟩ = some (.string c.control) ∧ W.frozen? ⟨b + 1, 53, none⟩ = false :=
  ⟨⟨(rowAt_block u0 0 32 (by rw [bC_length]; decide)).trans (rowOf_all _ _ (bC_length _)), hasRow_block u0 0 32 (by rw [bC_length]; decide), (rowAt_block u1 1 16 (by rw [cttC_length]; decide)).trans (ctt_author c), hasRow_block u1 1 16 (by rw [cttC_length]; decide), (cell_block u1 17).trans (ctt_date c)⟩,
    (rowAt_block u2 0 32 (by rw [bC_length]; decide)).trans (rowOf_all _ _ (bC_length _)), hasRow_block u2 0 32 (by rw [bC_length]; decide), (rowAt_block u1 0 75 (by rw [cttC_length]; decide)).trans (ctt_whole c), hasRow_block u1 0 75 (by rw [cttC_length]; decide), (cell_block u1 53).trans (ctt_control c), free_block u1 53⟩
theorem put_control {w : World} {b : Nat} {c : Ctt} {t : TypeId} (h : w.heap[b]? = some (.cells (cttC c).toArray t (0, 0))) (s : ByteArray) : (w.setCell ⟨b, 53, none⟩ (.string s)).heap[b]? = some (.cells (cttC { c with control := s }).toArray t (0, 0)) := by
  rw [heap_setCell_same w b 53 _ t _ h, ← ctt_setcontrol]; simp [ctt_setcontrol]
set_option maxRecDepth 100000 in
set_option maxHeartbeats 4000000 in
theorem wCancelOf (id : Id) (c : Ctt) (t : Id) (o : Bool) (w : World) (hT : Tabs w) (hg : CttGood c) :
    Calls Tryz.prog 3 #[.agg (bC id).toArray, .agg (cttC c).toArray, .agg (bC t).toArray, .bool o] w fun e w' => e = .returned (.bool true) ∧ Gr w w' := by
  have HKN : Hid (∀ W, Gr w W → Calls Tryz.prog 4 #[] W fun e w' => e = .returned (.bool true) ∧ Gr W w') := fun W h => knownCL W (hT.env.gr h)
  have HOF : Hid (∀ s W, Gr w W → Calls Tryz.prog 6 #[.agg (bC id).toArray, .agg (cttC { c with control := s }).toArray] W fun e w' => e = .returned (.tuple #[.agg (cancC (ofV id { c with control := s })).toArray, .bool (ofB (bl s))]) ∧ Gr W w') := fun s W h => ofC id { c with control := s } W (hT.gr h) hg
  have HPA : Hid (∀ W, Gr w W → Calls Tryz.prog 7 #[.string c.control] W (PrPost (parseS (bl c.control)) W)) := fun W h => parseOC c.control W (hT.gr h)
  have HPR : Hid (∀ W, Gr w W → Calls Tryz.prog 5 #[.agg (cmC { cm0 1 with target := t } nilV).toArray] W fun e w' => e = .returned (.tuple #[.string (bs (prS (cmT t))), .int .i64 (cmErr (cmT t))]) ∧ Gr W w') := fun W h => printC (cmT t) nilV W (hT.gr h) (nil_auts W) (Nat.zero_le _) (Nat.zero_le _)
  have h1 : oneB (cttC c) = true := by
    obtain ⟨⟨ga, gn, gk, hga⟩, ra, rn, rk, hra⟩ := hg
    exact ctt_one c (by rw [hga]; rfl) (by rw [hra]; rfl)
  obtain ⟨⟨ga, gn, gk, hga⟩, ra, rn, rk, hra⟩ := hg
  have gA := (((Gr.refl w).alloc (.cells (bC id).toArray 23)).alloc (.cells (cttC c).toArray 31)).alloc (.cells (bC t).toArray 23)
  have G0 := Lib.hid gA
  have HGa := Lib.hid hga; have HRa := Lib.hid hra
  clear gA hga hra hT
  generalize hi1 : decide (1000 < (c.control.size : Int)) = i1
  generalize hi2 : decide (30 < (rn : Int)) = i2
  generalize hi3 : decide (30 < (gn : Int)) = i3
  go_enter Tryz.func3, Tryz.ntmps3
  go_wp2_with fail
  refine (HKN.out _ G0.out).mono ?_
  rintro e w1 ⟨rfl, hg1⟩
  obtain ⟨k0, k1, k2, k3⟩ := heap3 w (.cells (bC id).toArray 23) (.cells (cttC c).toArray 31) (.cells (bC t).toArray 23)
  have hs1 := hg1.size
  have U0 := Lib.hid ((hg1.block (b := w.heap.size) (by omega)).trans k0)
  have U1 := Lib.hid ((hg1.block (b := w.heap.size + 1) (by omega)).trans k1)
  have U2 := Lib.hid ((hg1.block (b := w.heap.size + 1 + 1) (by omega)).trans k2)
  rw [k3] at hs1
  clear k0 k1 k2 k3
  have G1 := Lib.hid (G0.out.trans hg1)
  have z53 := (cell_block U1.out 53).trans (ctt_control c)
  have z18 := (cell_block U1.out 18).trans ((ctt_groups c).trans (congrArg some HGa.out))
  have z20 := (cell_block U1.out 20).trans ((ctt_refs c).trans (congrArg some HRa.out))
  clear hg1 G0
  by_cases hl : i1 = false ∧ i2 = false ∧ i3 = false
  · obtain ⟨rfl, rfl, rfl⟩ := hl
    have l1 : w.heap.size + 2 < w1.heap.size := by omega
    clear hs1 z53
    obtain ⟨⟨q0, r0, q1, r1, z1⟩, q2, r2, q5, r5, z53, f53⟩ := of_facts U0.out U1.out U2.out
    cases o with
    | true =>
      by_cases ht : t = zId
      · have y1 : (t == zId) = true := by simpa using ht
        have he : cmErr (cmT t) = 1 := by rw [cmT_err, if_pos ht]
        rw [he] at HPR
        clear ht he
        go_wp2_with fail
        refine (HPR.out _ G1.out).mono ?_
        rintro e w2 ⟨rfl, hg2⟩
        have U0' := Lib.hid ((hg2.block (b := w.heap.size) (by omega)).trans U0.out)
        have U1' := Lib.hid ((hg2.block (b := w.heap.size + 1) (by omega)).trans U1.out)
        have U2' := Lib.hid ((hg2.block (b := w.heap.size + 1 + 1) (by omega)).trans U2.out)
        clear q0 r0 q1 r1 z1 q2 r2 q5 r5 z53 f53 z18 z20
        obtain ⟨-, q2, r2, -⟩ := of_facts U0'.out U1'.out U2'.out
        go_wp2_with fail
        go_ret
        exact ⟨rfl, G1.out.trans hg2⟩
      · have y1 : (t == zId) = false := by simpa using ht
        have he : cmErr (cmT t) = 0 := by rw [cmT_err, if_neg ht]
        have HVW := Lib.hid (ofV_whole id c ht)
        rw [he] at HPR
        clear ht he
        go_wp2_with fail
        refine (HPR.out _ G1.out).mono ?_
        rintro e w2 ⟨rfl, hg2⟩
        generalize bs (prS (cmT t)) = S at *
        have U0' := Lib.hid ((hg2.block (b := w.heap.size) (by omega)).trans U0.out)
        have U1' := Lib.hid ((hg2.block (b := w.heap.size + 1) (by omega)).trans U1.out)
        have U2' := Lib.hid ((hg2.block (b := w.heap.size + 1 + 1) (by omega)).trans U2.out)
        clear q0 r0 q1 r1 z1 q2 r2 q5 r5 z53 f53 z18 z20
        obtain ⟨⟨q0, r0, q1, r1, z1⟩, q2, r2, q5, r5, z53, f53⟩ := of_facts U0'.out U1'.out U2'.out
        have G2 := Lib.hid (G1.out.trans hg2)
        have l2 : w.heap.size + 2 < w2.heap.size := Nat.lt_of_lt_of_le l1 hg2.size
        clear hg2
        have V0 := Lib.hid ((heap_setCell_other w2 ⟨w.heap.size + 1, 53, none⟩ w.heap.size (.string S) (by show w.heap.size ≠ w.heap.size + 1; omega)).trans U0'.out)
        have V1 := Lib.hid (put_control U1'.out S)
        have V2 := Lib.hid ((heap_setCell_other w2 ⟨w.heap.size + 1, 53, none⟩ (w.heap.size + 1 + 1) (.string S) (by show w.heap.size + 1 + 1 ≠ w.heap.size + 1; omega)).trans U2'.out)
        have G3 := Lib.hid (Gr.of_grownBy (grown_new G2.out.grownBy (k := w.heap.size + 1) (o := 53) (by omega) (.string S)))
        have l3 : w.heap.size + 2 < (w2.setCell ⟨w.heap.size + 1, 53, none⟩ (.string S)).heap.size := by simp; omega
        obtain ⟨⟨q0', r0', q1', r1', z1'⟩, q2', r2', q5', r5', z53', f53'⟩ := of_facts V0.out V1.out V2.out
        go_wp2_with fail
        clear q0 r0 q1 r1 z1 q2 r2 q5 r5 z53 f53 U0 U1 U2 U0' U1' U2' G1 G2
        generalize w2.setCell ⟨w.heap.size + 1, 53, none⟩ (.string S) = W3 at *
        refine (HOF.out S _ G3.out).mono ?_
        rintro e w4 ⟨rfl, hg4⟩
        rw [HVW.out.1, HVW.out.2]
        have y3 : cancEq ⟨id, c.author, c.date, t⟩ ⟨id, c.author, c.date, t⟩ = true := (cancEq_iff _ _).2 rfl
        have X0 := Lib.hid ((hg4.block (b := w.heap.size) (by omega)).trans V0.out)
        have X1 := Lib.hid ((hg4.block (b := w.heap.size + 1) (by omega)).trans V1.out)
        have X2 := Lib.hid ((hg4.block (b := w.heap.size + 1 + 1) (by omega)).trans V2.out)
        clear q0' r0' q1' r1' z1' q2' r2' q5' r5' z53' f53'
        have l4 : w.heap.size + 2 < w4.heap.size := Nat.lt_of_lt_of_le l3 hg4.size
        have l40 : w.heap.size < w4.heap.size := by omega
        have l41 : w.heap.size + 1 < w4.heap.size := by omega
        have l42 : w.heap.size + 1 + 1 < w4.heap.size := by omega
        obtain ⟨⟨q0, r0, q1, r1, z1⟩, q2, r2, q5, r5, z53, f53⟩ := of_facts X0.out X1.out X2.out
        simp only at q1 z1
        have G4 := Lib.hid ((G3.out.trans hg4).alloc (.cells (cancC ⟨id, c.author, c.date, t⟩).toArray 40))
        have G5 := Lib.hid G4.out.drew
        clear hg4 V0 V1 V2 X0 X1 X2 l3 l4 G3 HVW HOF HPA HPR HKN hi1 hi2 hi3
        go_wp2_with fail
        all_goals
          go_ret
          first | exact ⟨rfl, G5.out⟩ | exact ⟨rfl, G4.out⟩
    | false =>
      unfold PrPost at HPA
      have HVV : Hid (ofV id c = if ofB (bl c.control) = true then ⟨id, c.author, c.date, (parseS (bl c.control)).1.target⟩ else canc0) := rfl
      have HBB : Hid (ofB (bl c.control) = (decide ((parseS (bl c.control)).2.2 = 0) && decide ((parseS (bl c.control)).1.kind = 1))) := rfl
      have HO2 : Hid (∀ W, Gr w W → Calls Tryz.prog 6 #[.agg (bC id).toArray, .agg (cttC c).toArray] W fun e w' => e = .returned (.tuple #[.agg (cancC (ofV id c)).toArray, .bool (ofB (bl c.control))]) ∧ Gr W w') := fun W h => HOF.out c.control W h
      generalize ofV id c = V at *
      generalize ofB (bl c.control) = B at *
      generalize parseS (bl c.control) = p at *
      obtain ⟨d, k, er⟩ := p
      simp only at HPA HVV HBB
      clear HOF HPR HKN
      go_wp2_with fail
      refine (HPA.out _ G1.out).mono ?_
      rintro e w2 ⟨v, rfl, hv, hg2⟩
      obtain ⟨a, cap, rfl, -⟩ := hv
      generalize (d.mods.map bC).length = m at *
      have U0' := Lib.hid ((hg2.block (b := w.heap.size) (by omega)).trans U0.out)
      have U1' := Lib.hid ((hg2.block (b := w.heap.size + 1) (by omega)).trans U1.out)
      have U2' := Lib.hid ((hg2.block (b := w.heap.size + 1 + 1) (by omega)).trans U2.out)
      have l2 : w.heap.size + 2 < w2.heap.size := Nat.lt_of_lt_of_le l1 hg2.size
      have l20 : w.heap.size < w2.heap.size := by omega
      have l21 : w.heap.size + 1 < w2.heap.size := by omega
      clear q0 r0 q1 r1 z1 q2 r2 q5 r5 z53 f53 z18 z20
      obtain ⟨⟨q0, r0, q1, r1, z1⟩, q2, r2, q5, r5, z53, f53⟩ := of_facts U0'.out U1'.out U2'.out
      have G2 := Lib.hid ((G1.out.trans hg2).alloc (.cells (cmC d (.slice a m cap)).toArray 38))
      have gC := (Gr.refl w2).alloc (.cells (cmC d (.slice a m cap)).toArray 38)
      have C3 := Lib.hid (heap_alloc_new w2 (.cells (cmC d (.slice a m cap)).toArray 38))
      have U0'' := Lib.hid ((gC.block l20).trans U0'.out)
      have U1'' := Lib.hid ((gC.block l21).trans U1'.out)
      have U2'' := Lib.hid ((gC.block (b := w.heap.size + 1 + 1) (by omega)).trans U2'.out)
      have lW : w.heap.size + 2 < (w2.alloc (.cells (cmC d (.slice a m cap)).toArray 38)).heap.size := by simp; omega
      have lC : w2.heap.size < (w2.alloc (.cells (cmC d (.slice a m cap)).toArray 38)).heap.size := by simp
      clear hg2 gC
      go_wp2_with fail
      generalize w2.alloc (.cells (cmC d (.slice a m cap)).toArray 38) = W3 at *
      refine (HO2.out _ G2.out).mono ?_
      rintro e w4 ⟨rfl, hg4⟩
      have X0 := Lib.hid ((hg4.block (b := w.heap.size) (by omega)).trans U0''.out)
      have X1 := Lib.hid ((hg4.block (b := w.heap.size + 1) (by omega)).trans U1''.out)
      have X2 := Lib.hid ((hg4.block (b := w.heap.size + 1 + 1) (by omega)).trans U2''.out)
      have C4 := Lib.hid ((hg4.block lC).trans C3.out)
      have l4 : w.heap.size + 2 < w4.heap.size := Nat.lt_of_lt_of_le lW hg4.size
      have l5 : w2.heap.size < w4.heap.size := Nat.lt_of_lt_of_le lC hg4.size
      have l40 : w.heap.size < w4.heap.size := by omega
      have l41 : w.heap.size + 1 < w4.heap.size := by omega
      clear q0 r0 q1 r1 z1 q2 r2 q5 r5 z53 f53
      obtain ⟨⟨q0, r0, q1, r1, z1⟩, q2, r2, q5, r5, z53, f53⟩ := of_facts X0.out X1.out X2.out
      obtain ⟨c0, -, -, -, -, -, -, -, r6, q6, -⟩ := cm_facts C4.out
      have G4 := Lib.hid ((G2.out.trans hg4).alloc (.cells (cancC V).toArray 40))
      have G5 := Lib.hid G4.out.drew
      clear hg4 X0 X1 X2 C3 C4 U0 U1 U2 U0' U1' U2' U0'' U1'' U2'' l4 l2 l20 l21 lW lC G2 G1 HO2 HPA hi1 hi2 hi3 l1
      generalize w2.heap.size = n2 at *
      by_cases he : er = 0
      · subst he
        by_cases hk : d.kind = 1
        · have x1 : (d.kind == 1) = true := by rw [hk]; rfl
          have x2 : (d.kind != 1) = false := by rw [hk]; rfl
          have hB : B = true := HBB.out.trans (by rw [decide_eq_true hk]; rfl)
          have hV : V = ⟨id, c.author, c.date, d.target⟩ := HVV.out.trans (if_pos hB)
          clear HBB HVV hk
          subst hB hV
          have y3 : cancEq ⟨id, c.author, c.date, d.target⟩ ⟨id, c.author, c.date, d.target⟩ = true := (cancEq_iff _ _).2 rfl
          go_wp2_with fail
          all_goals
            go_ret
            first | exact ⟨rfl, G5.out⟩ | exact ⟨rfl, G4.out⟩
        · have x1 : (d.kind == 1) = false := by simpa using hk
          have x2 : (d.kind != 1) = true := by simpa using hk
          have hB : B = false := HBB.out.trans (by rw [decide_eq_false hk]; simp)
          have hV : V = canc0 := HVV.out.trans (if_neg (by rw [hB]; simp))
          clear HBB HVV hk
          subst hB hV
          have y3 : cancEq canc0 canc0 = true := (cancEq_iff _ _).2 rfl
          go_wp2_with fail
          all_goals
            go_ret
            first | exact ⟨rfl, G5.out⟩ | exact ⟨rfl, G4.out⟩
      · have x1 : (er == 0) = false := by simpa using he
        have x2 : (er != 0) = true := by simpa using he
        have hB : B = false := HBB.out.trans (by rw [decide_eq_false he]; simp)
        have hV : V = canc0 := HVV.out.trans (if_neg (by rw [hB]; simp))
        clear HBB HVV he
        subst hB hV
        have y3 : cancEq canc0 canc0 = true := (cancEq_iff _ _).2 rfl
        go_wp2_with fail
        all_goals
          go_ret
          first | exact ⟨rfl, G5.out⟩ | exact ⟨rfl, G4.out⟩
  · have hl2 : i1 = true ∨ (i1 = false ∧ i2 = true) ∨ (i1 = false ∧ i2 = false ∧ i3 = true) := by
      cases i1 <;> cases i2 <;> cases i3 <;> simp at hl ⊢
    clear hl
    rcases hl2 with rfl | ⟨rfl, rfl⟩ | ⟨rfl, rfl, rfl⟩
    all_goals
      go_wp2_with (go_at_call 4; refine (HKN.out _ G1.out).mono ?_; rintro e w3 ⟨rfl, hg3⟩)
      go_ret
      exact ⟨rfl, G1.out.trans hg3⟩
end Go.Proofs.YtcjacgjeiljfgaaGreatDoor

/- Back; the law ControlParse: for every text it returns true. -/
import Derived.Test.YtcdcmohccbhchaaGreatDoorBJ
import Derived.Test.YtcdcmohccbhchaaGreatDoorBF
import Derived.Test.YtcdcmohccbhchaaGreatDoorBI
import Derived.Test.YtcdcmohccbhchaaGreatDoorBE
import Derived.Test.YtcdcmohccbhchaaGreatDoorBH
namespace Go.Proofs.YtcdcmohccbhchaaGreatDoor
open Go.RowKit

@[local go_sem ↓] theorem exec_bslB {P : Program} (ρ : Operand → Value) (d : Option Tmp) (ps : Array (Nat × Operand)) (ty : TypeId) (p : String) (af : Array Edge) (g : Option (Nat × Bool)) (w : World) :
    Sem.run P (execOp ρ ⟨d, .buildSlice 23 1 ps, ty, p, af, g⟩) w = bsRA P 23 1 (ps.map fun x => (x.1, ρ x.2)) w := rfl
@[local go_sem] theorem kSlB1 (y : Aut) (w : World) : bsRA Tryz.prog 23 1 #[(0, .agg (bC y).toArray)] w = .ok (.value (.slice (some ⟨w.heap.size, 0, none⟩) 1 1)) (w.alloc (.cells (bC y).toArray 24)) := kSlA1 y w
@[local go_sem ↓ high] theorem zeroRCB (w : World) : Sem.run Tryz.prog (zeroValue 26) w = .ok (.agg (cmC (cm0 0) nilV).toArray) w := by kernel_rfl
set_option maxRecDepth 100000 in
set_option maxHeartbeats 4000000 in
theorem backC (c : Cm) (l : List Aut) (v : Value) (w : World) (hv : AutsAt w v l) (hl : l.length ≤ 1000000) :
    Calls Tryz.prog 22 #[.agg (cmC c v).toArray] w fun e w' => ∃ a n k, e = .returned (.agg (cmC c (.slice a n k)).toArray) ∧ AutsAt w' (.slice a n k) l ∧ Gr w w' := by
  obtain ⟨a, cap, rfl, hc, hj⟩ := hv
  have e1 : (l.map bC).length = l.length := by simp
  rw [e1] at hc ⊢
  have HI := Lib.hid (info_parts infoA16)
  have HJ := Lib.hid hj
  clear hj e1
  go_enter Tryz.func22, Tryz.ntmps22
  go_wp2_with fail
  go_loopw [3, 4, 5, 6, 7, 8, 9, 10, 11, 12, 13, 14, 15, 16, 17, 18, 19] (fun cv i _ _ _ _ _ _ _ _ _ _ _ _ _ _ _ wr => ∃ k : Nat, k ≤ l.length ∧ i = .int .i64 k ∧ Hid (Gr w wr) ∧ Hid (wr.heap[w.heap.size]? = some (.cells (cmC c (.slice a l.length cap)).toArray 37 (0, 0))) ∧ Hid (wr.heap[w.heap.size + 1]? = some (.cells (cmC (cm0 0) nilV).toArray 26 (0, 0))) ∧ Hid (wr.ownsRow (w.heap.size + 2) 24 16 cv k ((l.take k).map bC).flatten)) (fun _ i _ _ _ _ _ _ _ _ _ _ _ _ _ _ _ _ => l.length - (intOf i).toNat)
  case atStart => exact ⟨0, Nat.zero_le _, rfl, ((Gr.refl w).alloc _).alloc _, heap_alloc2_old w _ _, heap_alloc2_new w _ _, ⟨rfl, .inl ⟨rfl, rfl⟩⟩⟩
  case round =>
    obtain ⟨k, hk, rfl, hG, h3, h6, hown⟩ := hrel
    have s3 := (Array.getElem?_eq_some_iff.1 h3.out).1
    have s6 := (Array.getElem?_eq_some_iff.1 h6.out).1
    obtain ⟨c0, c33, c34, c35, c36, c37, c38, c39, r1, q1, r39, q39, r40, q40, r0, q0, z1⟩ := cm_facts h3.out
    by_cases hlt : k < l.length
    · obtain ⟨b, o, rfl, hb, p1, p2⟩ := HJ.out k (by simpa using hlt)
      have u1 := (hG.out.hasRow hb).trans p1
      have u2 := (hG.out.rowAt hb).trans p2
      rw [List.getElem_map] at u2
      have HTK : Hid (l.take (k + 1) = l.take k ++ [l[k]]) := List.take_succ_eq_append_getElem hlt
      have hbw : b < wr.heap.size := Nat.lt_of_lt_of_le hb hG.out.size
      have hk1 : (k : Int) < (l.length : Int) := by omega
      have hk2 : (0 : Int) ≤ (k : Int) := by omega
      clear p1 p2 r39 q39 r40 q40 r0 q0 r1 q1
      generalize l[k] = y at *
      have hnews : Hid (∀ j u, (bC y)[j]? = some u → (wr.alloc (.cells (bC y).toArray 24)).cell? ((⟨wr.heap.size, 0, none⟩ : Addr).add j) = some u) := by
        intro j u hu
        rw [Addr.add_lit, Nat.zero_add, World.cell?_alloc_new]; simpa using hu
      have hnl : Hid ((bC y).length = 1 * 16) := by show _ = _; rw [bC_length]
      have h1c : Hid (∀ u ∈ bC y, u.oneCell' = true) := fun u hu => List.all_eq_true.1 (oneB_bC y) u hu
      have O2 := Lib.hid (hown.out.alloc (.cells (bC y).toArray 24))
      obtain ⟨i0, hi, hz0, hz1, hz2⟩ := HI.out
      go_wp2_with (at_builtin; refine wpList_append_own _ rfl _ _ 23 rfl (w.heap.size + 2) 24 i0 _ 16 16 Tryz.underlying23 hi hz0 hz1 hz2 rfl (by decide) u3 k ((l.take k).map bC).flatten rfl O2.out ⟨wr.heap.size, 0, none⟩ 1 1 (bC y) rfl hnl.out hnews.out h1c.out (by unfold maxLen; omega) (by omega) (by simp; omega) ?_; intro v' w5 hown5 hgrow5 hnil5)
      go_roundw
      case rel =>
        have hbl : ∀ k', u3.ownBlock = some k' → w.heap.size + 2 ≤ k' := fun k' hk' => (O2.out.lt k' hk').1
        refine ⟨k + 1, by omega, by go_num, ?_, ?_, ?_, ?_⟩
        · exact (hG.out.alloc _).grown hgrow5 (fun k' hk' => by have := hbl k' hk'; omega)
        · exact (hgrow5.block _ (by simp; omega) (fun e => by have := hbl _ e.symm; omega)).trans ((((Gr.refl wr).alloc _).block (by omega)).trans h3.out)
        · exact (hgrow5.block _ (by simp; omega) (fun e => by have := hbl _ e.symm; omega)).trans ((((Gr.refl wr).alloc _).block (by omega)).trans h6.out)
        · show World.ownsRow _ _ _ _ _ _ _
          rw [HTK.out, List.map_append, List.flatten_append]
          simpa using hown5
      case measure => simp [intOf]; omega
    · have hk1 : ¬ (k : Int) < (l.length : Int) := by omega
      have hke : k = l.length := by omega
      have hsl : Hid (AutsAt wr u3 l) := by
        refine slAt_of_owns (base := w.heap.size + 2) (e := 24) (map_bC_len l) ?_
        rw [List.length_map, ← hke]
        have := hown.out
        rwa [List.take_of_length_le (by omega)] at this
      have HLT : Hid (∀ k', u3.ownBlock = some k' → w.heap.size + 2 ≤ k') := fun k' hk' => (hown.out.lt k' hk').1
      obtain ⟨a', c', rfl, _⟩ := owns_slice hown.out
      clear hown hke
      have f6 := freeRow_block h6.out 0 56
      have g6 := hasRow_block h6.out 0 56 (by rw [cmC_length]; decide)
      clear r0 q0 r39 q39
      go_wp2_with fail
      have hw := sets_whole (cs := cmC c (.slice a' k c')) h6.out (by rw [cmC_length, cmC_length])
      refine bodyPost_ret (v := .agg (cmC c (.slice a' k c')).toArray) (results_cell_row rfl _ _ (w.heap.size + 1) _ _ _ _ rfl hw Tryz.underlying26 rfl (by rw [List.size_toArray, cmC_length]; kernel_rfl)) rfl ?_
      refine ⟨a', k, c', rfl, hsl.out.keep (fun x hx => ?_) ?_, ?_⟩
      · have := HLT.out x.block (by rw [hx]; rfl)
        exact sets_other (by omega) _ _ _
      · rw [sets_size]; exact Nat.le_refl _
      · exact Gr.of_grownBy (grown_sets (b := w.heap.size + 1) (w := w) (by omega) _ 0 _ hG.out.grownBy)
set_option maxRecDepth 100000 in
set_option maxHeartbeats 4000000 in
theorem wParse (s : ByteArray) (w : World) (hT : Tabs w) : Calls Tryz.prog 4 #[.string s] w fun e w' => e = .returned (.bool true) ∧ Gr w w' := by
  have HKN : Hid (∀ W, Gr w W → Calls Tryz.prog 12 #[] W fun e w' => e = .returned (.bool true) ∧ Gr W w') := fun W h => knownC W (hT.env.gr h)
  by_cases hs : 1100 < s.size
  · have i1 : decide (1100 < (s.size : Int)) = true := by simp; omega
    clear hT hs
    go_enter Tryz.func4, Tryz.ntmps4
    go_wp2_with fail
    refine (HKN.out _ (Gr.refl _)).mono ?_
    rintro e w1 ⟨rfl, hg1⟩
    go_wp2_with fail
    refine (HKN.out _ hg1).mono ?_
    rintro e w2 ⟨rfl, hg2⟩
    go_wp2_with fail
    go_ret
    exact ⟨rfl, hg1.trans hg2⟩
  · have i1 : decide (1100 < (s.size : Int)) = false := by simp; omega
    have HPP : Hid (∀ W, Gr w W → Calls Tryz.prog 19 #[.string s] W (PrPost (parseS (bl s)) W)) := fun W h => parseAll s W (hT.env.gr h) (hT.alph.gr h) (env_lt (hT.env.gr h))
    have HRP : Hid (∀ W, Calls Tryz.prog 20 #[.string s] W (PrPost (parseS (bl s)) W)) := fun W => by
      have := refParseAll s W (by omega)
      rwa [refS_eq] at this
    have HML : Hid ((parseS (bl s)).1.mods.length ≤ 1000000) := by
      by_cases he : (parseS (bl s)).2.2 = 0
      · have := (canon he).2.2.1
        show _ ≤ _; omega
      · show _ ≤ _; rw [parse_bad he]; exact Nat.zero_le _
    unfold PrPost at HPP HRP
    obtain ⟨⟨c, k, er⟩, hp⟩ : ∃ p, parseS (bl s) = p := ⟨_, rfl⟩
    rw [hp] at HPP HRP HML
    simp only at HPP HRP HML
    clear hp hT hs
    go_enter Tryz.func4, Tryz.ntmps4
    go_wp2_with fail
    refine (HKN.out _ (Gr.refl _)).mono ?_
    rintro e w1 ⟨rfl, hg1⟩
    have G1 := Lib.hid hg1
    clear hg1
    go_wp2_with fail
    refine (HPP.out _ G1.out).mono ?_
    rintro e w2 ⟨v, rfl, hv, hg2⟩
    obtain ⟨a, cap, rfl, hr⟩ := hv
    have HV := Lib.hid (show AutsAt w2 (.slice a (c.mods.map bC).length cap) c.mods from ⟨a, cap, rfl, hr⟩)
    have G2 := Lib.hid (G1.out.trans hg2)
    have g3 := (Gr.refl w2).alloc (.cells (cmC c (.slice a (c.mods.map bC).length cap)).toArray 37)
    have b3 : CmB (w2.alloc (.cells (cmC c (.slice a (c.mods.map bC).length cap)).toArray 37)) w2.heap.size 37 c (.slice a (c.mods.map bC).length cap) := heap_alloc_new w2 _
    clear hr hg2
    generalize (c.mods.map bC).length = m at *
    go_wp2_with fail
    have G3 := Lib.hid (G2.out.trans g3)
    have B3 := Lib.hid b3
    have HV3 := Lib.hid (HV.out.gr g3)
    clear g3 b3 HV G2 G1
    refine (HRP.out _).mono ?_
    rintro e w4 ⟨v', rfl, hv', hg4⟩
    obtain ⟨a', cap', rfl, hr'⟩ := hv'
    have hV' : AutsAt w4 (.slice a' (c.mods.map bC).length cap') c.mods := ⟨a', cap', rfl, hr'⟩
    clear hr'
    generalize (c.mods.map bC).length = m' at *
    have HV4 := Lib.hid (HV3.out.gr hg4)
    have G4 := Lib.hid (G3.out.trans hg4)
    have B4 := Lib.hid (B3.out.gr hg4)
    have g5 := (Gr.refl w4).alloc (.cells (cmC c (.slice a' m' cap')).toArray 26)
    have b5 : CmB (w4.alloc (.cells (cmC c (.slice a' m' cap')).toArray 26)) w4.heap.size 26 c (.slice a' m' cap') := heap_alloc_new w4 _
    have HV5 := Lib.hid (hV'.gr g5)
    have HW5 := Lib.hid (HV4.out.gr g5)
    have G5 := Lib.hid (G4.out.trans g5)
    have B5 := Lib.hid (B4.out.gr g5)
    have C5 := Lib.hid b5
    clear g5 b5 hV' hg4 HV4 HV3 G4 G3 B4 B3 HRP HPP HKN
    go_wp2_with fail
    generalize w4.alloc (.cells (cmC c (.slice a' m' cap')).toArray 26) = U at *
    generalize w4.heap.size = n6 at *
    generalize w2.heap.size = n3 at *
    obtain ⟨r3, q3⟩ := B5.out.rows
    obtain ⟨r6, q6⟩ := C5.out.rows
    have KS : Hid (∀ W, Gr U W → hasRow W ⟨n3, 0, none⟩ 56 = true ∧ rowAt W ⟨n3, 0, none⟩ 56 = cmC c (.slice a m cap) ∧ hasRow W ⟨n6, 0, none⟩ 56 = true ∧ rowAt W ⟨n6, 0, none⟩ 56 = cmC c (.slice a' m' cap')) := fun W h => ⟨(B5.out.gr h).rows.1, (B5.out.gr h).rows.2, (C5.out.gr h).rows.1, (C5.out.gr h).rows.2⟩
    have HBK : Hid (∀ W, Gr U W → Calls Tryz.prog 22 #[.agg (cmC c (.slice a m cap)).toArray] W fun e w' => ∃ x n k, e = .returned (.agg (cmC c (.slice x n k)).toArray) ∧ AutsAt w' (.slice x n k) c.mods ∧ Gr W w') := fun W h => backC c c.mods _ W (HW5.out.gr h) HML.out
    have HSM : Hid (∀ W x, Gr U W → AutsAt W x c.mods → Calls Tryz.prog 21 #[.agg (cmC c x).toArray, .agg (cmC c (.slice a' m' cap')).toArray] W fun e w' => e = .returned (.bool true) ∧ Gr W w') := fun W x h hx => by
      have := sameC c c c.mods c.mods rfl rfl x _ W hx (HV5.out.gr h) HML.out
      rwa [decide_eq_true rfl] at this
    clear HV5 HW5 HML B5 C5
    have g0 := (Gr.refl U).drew
    have y1 : (er == er) = true := beq_self_eq_true er
    have y2 : ((k : Int) == (k : Int)) = true := beq_self_eq_true _
    go_region_held_law (fun u => hasRow u ⟨n3, 0, none⟩ 56 = true ∧ rowAt u ⟨n3, 0, none⟩ 56 = cmC c (.slice a m cap) ∧ hasRow u ⟨n6, 0, none⟩ 56 = true ∧ rowAt u ⟨n6, 0, none⟩ 56 = cmC c (.slice a' m' cap'))
      (first | with_reducible exact KS.out _ g2 | with_reducible exact KS.out _ g1 | with_reducible exact KS.out _ g0)
      (first
        | (go_at_call 22; with_reducible refine (HBK.out _ g0).mono ?_; rintro e w6 ⟨x1, n1, k1, rfl, hv1, hg6⟩; have g1 := g0.trans hg6)
        | (go_at_call 21; with_reducible refine (HSM.out _ _ g1 hv1).mono ?_; rintro e w7 ⟨rfl, hg7⟩; have g2 := g1.trans hg7))
    all_goals
      go_wp2_with fail
      go_ret
      exact ⟨rfl, G5.out.trans g2⟩
end Go.Proofs.YtcdcmohccbhchaaGreatDoor

/- The statement's known(): the example is genuine, and forged behind a change. -/
import Derived.Test.YteknmbijodbfoaaGreatDoorVStt
import Derived.Test.YteknmbijodbfoaaGreatDoorVExa
namespace Go.Proofs.YteknmbijodbfoaaGreatDoor
open Go.RowKit

theorem row_all {W : World} {b : Nat} {l : List Value} {t : TypeId} (N : Nat) (hl : l.length = N) (h : W.heap[b]? = some (.cells l.toArray t (0, 0))) : hasRow W ⟨b, 0, none⟩ N = true ∧ rowAt W ⟨b, 0, none⟩ N = l ∧ b < W.heap.size :=
  ⟨hasRow_block h 0 N (by omega), (rowAt_block h 0 N (by omega)).trans (rowOf_all _ _ hl), lt_of_heap h⟩
theorem set_app_r (a b : List Value) (k m : Nat) (x : Value) (h : a.length = m) (hk : m ≤ k) : (a ++ b).set k x = a ++ b.set (k - m) x := by
  rw [List.set_append_right _ _ (by omega), h]
theorem ctt_setSubject (k : Ctt) (s : ByteArray) : (cttC k).set 19 (.string s) = cttC { k with subject := s } := by
  unfold cttC
  rw [set_app_r _ _ 19 1 _ rfl (by decide), set_app_r _ _ (19 - 1) 16 _ (bC16_len _) (by decide)]
  rfl
/-- The example's key and signature, and what the functions that it calls return. -/
structure KwC (r a : V16) (E : Nat → V16) (L : V16) (S : List Value) : Prop where
  sl : S.length = 33
  so : oneB S = true
  pb : ∀ W, Kt W → Calls Tryz.prog 6 #[.agg S.toArray] W fun e w' => e = .returned (.tuple #[.agg (pubC 1 r).toArray, .int .i64 0]) ∧ Gr W w'
  au : ∀ W, Kt W → Calls Tryz.prog 7 #[.agg (pubC 1 r).toArray] W fun e w' => e = .returned (.tuple #[.agg (bC a).toArray, .int .i64 0]) ∧ Gr W w'
  sg : ∀ g W, Bs W → GsAt W g → Calls Tryz.prog 8 #[.agg (cttC (ctK a r teaS g 1)).toArray, .agg S.toArray] W fun e w' => ∃ ap cp, e = .returned (.tuple #[.agg (sgC 0 E (.slice ap 1 cp)).toArray, .int .i64 0]) ∧ OwnV 29 w' W.heap.size (.slice ap 1 cp) [L] ∧ Gr W w'
  s1 : ∀ g ap cp x W, VTabs W → GsAt W g → Nds W (.slice ap 1 cp) [L] → RingAt W x → Calls Tryz.prog 9 #[.agg (snC (ctK a r teaS g 1) (sgC 0 E (.slice ap 1 cp))).toArray, .pointer (some ⟨x, 0, none⟩)] W fun e w' => e = .returned (.int .i64 0) ∧ Gr W w'
  s2 : ∀ g ap cp x W, VTabs W → GsAt W g → Nds W (.slice ap 1 cp) [L] → RingAt W x → Calls Tryz.prog 9 #[.agg (snC (ctK a r tenS g 1) (sgC 0 E (.slice ap 1 cp))).toArray, .pointer (some ⟨x, 0, none⟩)] W fun e w' => e = .returned (.int .i64 3) ∧ Gr W w'
theorem kwC : ∃ r a E L, KwC r a E L (secC seed0 1) := by
  have ha : half (1 :: rootK.toList) = authK := rfl
  refine ⟨rootK, authK, sigK, lfV seed0 1, secC_len _ _, secC_one _ _, fun W h => ?_, fun W h => ?_, fun g W hb hg => ?_, fun g ap cp x W hT hg hp hR => ?_, fun g ap cp x W hT hg hp hR => ?_⟩
  · have := secPublicC seed0 W h
    rw [rootS_rootK] at this; exact this
  · have := ofC rootK W h
    rw [ha] at this; exact this
  · have h := canSignC seed0 authK teaS g 1 (ok_tea 1 (Nat.le_refl 1)) W hb hg
    rw [rootS_rootK] at h
    refine h.mono ?_
    rintro e w' ⟨pv, he, ho, hg⟩
    obtain ⟨ap, cp, hv⟩ := ho.shape
    replace hv : pv = .slice ap 1 cp := hv
    subst hv
    exact ⟨ap, cp, he, ho, hg⟩
  · exact statusC authK rootK teaS g 1 (ok_tea 1 (Nat.le_refl 1)) sigK _ _ x W hT hg hp hR ha 0 (if_pos root_tea)
  · exact statusC authK rootK tenS g 1 (ok_ten 1 (Nat.le_refl 1)) sigK _ _ x W hT hg hp hR ha 3 (if_neg root_ten)
set_option maxRecDepth 100000 in
set_option maxHeartbeats 4000000 in
theorem knownC (w : World) (hT : VTabs w) : Calls Tryz.prog 4 #[] w fun e w' => e = .returned (.bool true) ∧ Gr w w' := by
  obtain ⟨r, a, E, L, hK⟩ := kwC
  obtain ⟨n, hn⟩ : ∃ n, w.heap.size = n := ⟨_, rfl⟩
  have HN := Lib.hid hn
  have HT := Lib.hid hT
  have hb := kSec1
  obtain ⟨S, hS⟩ : ∃ S, secC seed0 1 = S := ⟨_, rfl⟩
  rw [hS] at hK
  have hbd : ∀ w, bdR Tryz.prog 28 #[(1, .int .i64 1)] w = .ok (.value (.agg S.toArray)) w := fun w => by rw [← hS]; exact kSec1 w
  obtain ⟨U0, hU⟩ : ∃ U0, (w.alloc (.cells (secC (Vector.replicate 32 0) 0).toArray 28)).setCells n 0 S = U0 := ⟨_, rfl⟩
  have G0 : Hid (Gr w U0) := by show Gr _ _; rw [← hU]; exact ((Gr.refl w).alloc _).setsOwn (b := n) (by omega) _ 0
  have H0 : Hid (U0.heap[n]? = some (.cells S.toArray 28 (0, 0))) := by
    show _ = _; rw [← hU]; exact sets_whole (heap_new _ _ _ hn.symm) (by rw [secC_len, hK.sl])
  obtain ⟨r0, r1, r2⟩ := row_all 33 hK.sl H0.out
  have A0 := heap_new w (.cells (secC (Vector.replicate 32 0) 0).toArray 28) n hn.symm
  have z0 := hasRow_block A0 0 33 (by rw [secC_len]; decide)
  have z1 := freeRow_block A0 0 33
  have z2 := lt_of_heap A0
  have s1 := hK.sl
  have s2 := hK.so
  have HK := Lib.hid hK
  have B5 := pubC_one 1 r
  have B6 := pubC_length 1 r
  have B7 := bC16_len a
  have B8 := bC16_one a
  clear hT hK hS hb A0
  go_enter Tryz.func4, Tryz.ntmps4
  go_wp2_with fail
  refine (HK.out.pb U0 (HT.out.gr G0.out).b.k).mono ?_
  rintro e w1 ⟨rfl, g1⟩
  clear r0 r1 r2 z0 z1 z2
  go_wp2_with fail
  obtain ⟨p, hp⟩ : ∃ p, w1.heap.size = p := ⟨_, rfl⟩
  have J1 := Lib.hid (heap_new w1 (.cells (pubC 1 r).toArray 31) p hp.symm)
  have G1 := Lib.hid (g1.alloc (.cells (pubC 1 r).toArray 31))
  have K0 := Lib.hid ((G1.out.block (lt_of_heap H0.out)).trans H0.out)
  obtain ⟨U1, hU1⟩ : ∃ U1, w1.alloc (.cells (pubC 1 r).toArray 31) = U1 := ⟨_, rfl⟩
  rw [hU1] at J1 G1 K0 ⊢
  try rw [hp]
  refine (HK.out.au U1 (HT.out.gr (G0.out.trans G1.out)).b.k).mono ?_
  rintro e w2 ⟨rfl, g2⟩
  obtain ⟨g, hg⟩ : ∃ g, w2.heap.size + 1 = g := ⟨_, rfl⟩
  obtain ⟨U3, hU3⟩ : ∃ U3, (w2.alloc (.cells (bC a).toArray 35)).alloc (.cells #[Value.string ⟨#[97]⟩] 9) = U3 := ⟨_, rfl⟩
  have G3 : Hid (Gr U1 U3) := by show Gr _ _; rw [← hU3]; exact (g2.alloc _).alloc _
  have J3 : Hid (U3.heap[g]? = some (.cells [Value.string ⟨#[97]⟩].toArray 9 (0, 0))) := by show _ = _; rw [← hU3]; exact heap_new _ _ _ (by rw [← hg]; simp)
  have HGs : Hid (GsAt U3 g) := ⟨lt_of_heap J3.out, (cell_block J3.out 0).trans rfl⟩
  clear g1 g2 hU1 hp hU
  have hct : ∀ w, bdR Tryz.prog 41 #[(1, .agg (bC a).toArray), (3, .slice (some ⟨g, 0, none⟩) 1 1), (4, .string ⟨#[116, 101, 97]⟩), (10, .agg (pubC 1 r).toArray)] w = .ok (.value (.agg (cttC (ctK a r teaS g 1)).toArray)) w := fun w => kCt a r teaS g 1 w
  obtain ⟨k, hk⟩ : ∃ k, ctK a r teaS g 1 = k := ⟨_, rfl⟩
  rw [hk] at hct
  have l75 := cttC_length k
  have b75 : oneB (cttC k) = true := by rw [← hk]; exact ctK_one _ _ _ _ _
  obtain ⟨f0, f1, f2⟩ := row_all 17 B6 ((G3.out.block (lt_of_heap J1.out)).trans J1.out)
  obtain ⟨c, hc⟩ : ∃ c, U3.heap.size = c := ⟨_, rfl⟩
  have HWC : Hid (w.heap.size ≤ c) := by show _ ≤ _; rw [← hc]; exact (G0.out.trans (G1.out.trans G3.out)).size
  obtain ⟨U4, hU4⟩ : ∃ U4, U3.alloc (.cells (cttC k).toArray 41) = U4 := ⟨_, rfl⟩
  have G4 : Hid (Gr U3 U4) := by show Gr _ _; rw [← hU4]; exact (Gr.refl _).alloc _
  have J4 : Hid (U4.heap[c]? = some (.cells (cttC k).toArray 41 (0, 0))) := by show _ = _; rw [← hU4]; exact heap_new _ _ _ hc.symm
  have K4 := Lib.hid (((G3.out.trans G4.out).block (lt_of_heap K0.out)).trans K0.out)
  obtain ⟨i0, i1, i2⟩ := row_all 33 s1 K4.out
  obtain ⟨j0, j1, j2⟩ := row_all 75 l75 J4.out
  have HSG := Lib.hid (HK.out.sg g U4 (HT.out.gr (G0.out.trans (G1.out.trans (G3.out.trans G4.out)))).b (HGs.out.gr G4.out))
  have HS1 : Hid (∀ ap cp x W, VTabs W → GsAt W g → Nds W (.slice ap 1 cp) [L] → RingAt W x → Calls Tryz.prog 9 #[.agg (snC k (sgC 0 E (.slice ap 1 cp))).toArray, .pointer (some ⟨x, 0, none⟩)] W fun e w' => e = .returned (.int .i64 0) ∧ Gr W w') := by
    rw [← hk]; exact fun ap cp x W => HK.out.s1 g ap cp x W
  rw [hk] at HSG
  have HNW := Lib.hid ringNewC
  go_wp2_with fail
  refine HSG.out.mono ?_
  rintro e w3 ⟨ap, cp, rfl, hnd, g5⟩
  clear f0 f1 f2 i0 i1 i2 j0 j1 j2 hct
  obtain ⟨Z, hZ⟩ : ∃ Z, sgC 0 E (.slice ap 1 cp) = Z := ⟨_, rfl⟩
  have zl : Z.length = 562 := by rw [← hZ]; exact sgC_len _ _ _
  have zo : oneB Z = true := by rw [← hZ]; exact sgC_one _ _ _ _ _
  obtain ⟨q, hq⟩ : ∃ q, w3.heap.size = q := ⟨_, rfl⟩
  obtain ⟨U5, hU5⟩ : ∃ U5, (w3.alloc (.cells (sgC 0 (fun _ => zAut) nilS).toArray 45)).setCells q 0 Z = U5 := ⟨_, rfl⟩
  have A5 := heap_new w3 (.cells (sgC 0 (fun _ => zAut) nilS).toArray 45) q hq.symm
  have z0 := hasRow_block A5 0 562 (by rw [sgC_len]; decide)
  have z1 := freeRow_block A5 0 562
  have z2 := lt_of_heap A5
  rw [hZ]
  have G5 : Hid (Gr U4 U5) := by show Gr _ _; rw [← hU5]; exact (g5.alloc _).setsOwn (b := q) (by have := g5.size; omega) _ 0
  have J5 : Hid (U5.heap[q]? = some (.cells Z.toArray 45 (0, 0))) := by show _ = _; rw [← hU5]; exact sets_whole A5 (by rw [sgC_len, zl])
  have C5 := Lib.hid ((G5.out.block (lt_of_heap J4.out)).trans J4.out)
  have GW5 := Lib.hid (G0.out.trans (G1.out.trans (G3.out.trans (G4.out.trans G5.out))))
  have HG5 := Lib.hid (HGs.out.gr (G4.out.trans G5.out))
  have HOV : Hid (OwnV 29 U5 U4.heap.size (.slice ap 1 cp) [L]) := by
    show OwnV _ _ _ _ _
    rw [← hU5]; exact hnd.gr (((Gr.refl w3).alloc _).setsOwn (b := q) (by omega) _ 0)
  have HND := Lib.hid HOV.out.nds
  have HST : Hid (∀ x W, Gr U5 W → RingAt W x → Calls Tryz.prog 9 #[.agg (snC k Z).toArray, .pointer (some ⟨x, 0, none⟩)] W fun e w' => e = .returned (.int .i64 0) ∧ Gr W w') := fun x W hW hR => by
    rw [← hZ]; exact HS1.out ap cp x W (HT.out.gr (GW5.out.trans hW)) (HG5.out.gr hW) (HND.out.gr hW) hR
  have hbs : ∀ w, bdR Tryz.prog 50 #[(0, .agg (cttC k).toArray), (1, .agg Z.toArray)] w = .ok (.value (.agg (snC k Z).toArray)) w := fun w => by rw [← hZ]; exact kSn k 0 E _ w
  have KS : Hid (∀ W, Gr U5 W → hasRow W ⟨c, 0, none⟩ 75 = true ∧ rowAt W ⟨c, 0, none⟩ 75 = cttC k ∧ hasRow W ⟨q, 0, none⟩ 562 = true ∧ rowAt W ⟨q, 0, none⟩ 562 = Z) := fun W hW => by
    obtain ⟨x1, x2, _⟩ := row_all 75 l75 ((hW.block (lt_of_heap C5.out)).trans C5.out)
    obtain ⟨y1, y2, _⟩ := row_all 562 zl ((hW.block (lt_of_heap J5.out)).trans J5.out)
    exact ⟨x1, x2, y1, y2⟩
  clear z0 z1 z2 A5 hnd g5
  go_wp2_with fail
  clear hU5 hU4 hU3 hc hg hq hn
  apply wp_toF (R := fun x W' => Hid (Gr U5 W'))
  case h =>
    go_region_held3 (fun u => hasRow u ⟨c, 0, none⟩ 75 = true ∧ rowAt u ⟨c, 0, none⟩ 75 = cttC k ∧ hasRow u ⟨q, 0, none⟩ 562 = true ∧ rowAt u ⟨q, 0, none⟩ 562 = Z) (first | exact KS.out _ (Gr.refl U5).drew | exact KS.out _ G6 | exact KS.out _ G7)
      (first
        | (go_simp; go_at_call 10; refine (HNW.out _).mono ?_; rintro e w6 ⟨x, rfl, hr, g6⟩; have G6 : Gr U5 w6 := Gr.trans (Gr.refl U5).drew g6)
        | (go_simp; go_at_call 9; refine (HST.out _ _ G6 hr).mono ?_; rintro e w7 ⟨rfl, g7⟩; have G7 : Gr U5 w7 := Gr.trans G6 g7))
    all_goals exact ⟨x, Lib.hid G7, rfl⟩
  rintro x W7 hG7
  have C7 := Lib.hid ((hG7.out.block (lt_of_heap C5.out)).trans C5.out)
  have e0 := cell_block C7.out 19
  have e1 := free_block C7.out 19
  have e2 := lt_of_heap C7.out
  obtain ⟨k2, hk2⟩ : ∃ k2, ctK a r tenS g 1 = k2 := ⟨_, rfl⟩
  have hks : (cttC k).set 19 (.string ⟨#[116, 101, 110]⟩) = cttC k2 := by
    rw [ctt_setSubject, ← hk2, ← hk]; rfl
  have l2 := cttC_length k2
  have b2 : oneB (cttC k2) = true := by rw [← hk2]; exact ctK_one _ _ _ _ _
  have hqc : c ≠ q := by
    intro h
    have h1 := C5.out
    rw [h, J5.out] at h1
    have h2 := congrArg (fun o : Option Obj => match o with | some (.cells cs _ _) => cs.size | _ => 0) h1
    simp [l75, zl] at h2
  have hgc : g ≠ c := by
    intro h
    have h1 := (G4.out.block (lt_of_heap J3.out)).trans J3.out
    rw [h, J4.out] at h1
    have h2 := congrArg (fun o : Option Obj => match o with | some (.cells cs _ _) => cs.size | _ => 0) h1
    simp [l75] at h2
  go_wp2_with fail
  obtain ⟨U8, hU8⟩ : ∃ U8, W7.setCell ⟨c, 19, none⟩ (.string ⟨#[116, 101, 110]⟩) = U8 := ⟨_, rfl⟩
  have J8 : Hid (U8.heap[c]? = some (.cells (cttC k2).toArray 41 (0, 0))) := by
    show _ = _; rw [← hU8, heap_setCell_same W7 c 19 _ _ _ C7.out, ← hks]; simp
  have Z8 : Hid (U8.heap[q]? = some (.cells Z.toArray 45 (0, 0))) := by
    show _ = _; rw [← hU8, Below.heap_setCell W7 _ _ q (fun h => hqc h.symm)]; exact (hG7.out.block (lt_of_heap J5.out)).trans J5.out
  have GW8 : Hid (Gr w U8) := by show Gr _ _; rw [← hU8]; exact (GW5.out.trans hG7.out).setOwn (b := c) HWC.out _
  have HG8 : Hid (GsAt U8 g) := by
    have h : U8.heap[g]? = some (.cells [Value.string ⟨#[97]⟩].toArray 9 (0, 0)) := by
      rw [← hU8, Below.heap_setCell W7 _ _ g hgc]
      have h1 := (G4.out.trans (G5.out.trans hG7.out)).block (lt_of_heap J3.out)
      exact h1.trans J3.out
    exact ⟨lt_of_heap h, (cell_block h 0).trans rfl⟩
  have HN8 : Hid (Nds U8 (.slice ap 1 cp) [L]) := by
    show Nds _ _ _
    rw [← hU8]
    refine ((HOV.out.gr hG7.out).set 19 _ (fun h => ?_)).nds
    have h1 := (HOV.out.own h).1
    have h2 := lt_of_heap J4.out
    omega
  have HST2 : Hid (∀ x W, Gr U8 W → RingAt W x → Calls Tryz.prog 9 #[.agg (snC k2 Z).toArray, .pointer (some ⟨x, 0, none⟩)] W fun e w' => e = .returned (.int .i64 3) ∧ Gr W w') := fun x W hW hR => by
    rw [← hZ, ← hk2]; exact HK.out.s2 g ap cp x W (HT.out.gr (GW8.out.trans hW)) (HG8.out.gr hW) (HN8.out.gr hW) hR
  have hbs2 : ∀ w, bdR Tryz.prog 50 #[(0, .agg (cttC k2).toArray), (1, .agg Z.toArray)] w = .ok (.value (.agg (snC k2 Z).toArray)) w := fun w => by rw [← hZ]; exact kSn k2 0 E _ w
  have KS2 : Hid (∀ W, Gr U8 W → hasRow W ⟨c, 0, none⟩ 75 = true ∧ rowAt W ⟨c, 0, none⟩ 75 = cttC k2 ∧ hasRow W ⟨q, 0, none⟩ 562 = true ∧ rowAt W ⟨q, 0, none⟩ 562 = Z) := fun W hW => by
    obtain ⟨x1, x2, _⟩ := row_all 75 l2 ((hW.block (lt_of_heap J8.out)).trans J8.out)
    obtain ⟨y1, y2, _⟩ := row_all 562 zl ((hW.block (lt_of_heap Z8.out)).trans Z8.out)
    exact ⟨x1, x2, y1, y2⟩
  rw [hU8]
  clear hU8 e0 e1 e2 hbs hks hqc hgc
  apply wp_toF (R := fun x W' => Hid (Gr U8 W'))
  case h =>
    go_region_held3 (fun u => hasRow u ⟨c, 0, none⟩ 75 = true ∧ rowAt u ⟨c, 0, none⟩ 75 = cttC k2 ∧ hasRow u ⟨q, 0, none⟩ 562 = true ∧ rowAt u ⟨q, 0, none⟩ 562 = Z) (first | exact KS2.out _ (Gr.refl U8).drew | exact KS2.out _ G6 | exact KS2.out _ G7)
      (first
        | (go_simp; go_at_call 10; refine (HNW.out _).mono ?_; rintro e w6 ⟨x, rfl, hr, g6⟩; have G6 : Gr U8 w6 := Gr.trans (Gr.refl U8).drew g6)
        | (go_simp; go_at_call 9; refine (HST2.out _ _ G6 hr).mono ?_; rintro e w7 ⟨rfl, g7⟩; have G7 : Gr U8 w7 := Gr.trans G6 g7))
    all_goals exact ⟨x, Lib.hid G7, rfl⟩
  rintro x2 W9 hG9
  go_wp2_with fail
  go_ret
  exact ⟨rfl, GW8.out.trans hG9.out⟩
end Go.Proofs.YteknmbijodbfoaaGreatDoor

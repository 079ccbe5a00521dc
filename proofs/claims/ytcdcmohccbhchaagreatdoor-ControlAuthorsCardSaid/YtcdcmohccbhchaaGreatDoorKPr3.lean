/- control.Print of a definition. -/
import Derived.Test.YtcdcmohccbhchaaGreatDoorKPrn
namespace Go.Proofs.YtcdcmohccbhchaaGreatDoor
open Go.RowKit

theorem empty_iff (s : ByteArray) : s.toList.isEmpty = true ↔ s = ⟨#[]⟩ := by
  rw [bl_toList, List.isEmpty_iff]
  exact ⟨fun h => bl_inj h, fun h => by rw [h]; rfl⟩
section
variable (t : Id) (g : ByteArray) (n : Int) (m : Bool) (l : List Aut) (tx : ByteArray) (nu ht : Int) (r : Aut)
theorem prt3_empty (h : tx = ⟨#[]⟩) : printS ⟨3, t, g, n, m, l, tx, nu, ht, r⟩ = Lib.join (([kindS 3] ++ [g, itoaS n, modeS ⟨3, t, g, n, m, l, tx, nu, ht, r⟩]).map bl) (bl ⟨#[32]⟩) := by subst h; rfl
theorem prt3_text (h : ¬ tx = ⟨#[]⟩) : printS ⟨3, t, g, n, m, l, tx, nu, ht, r⟩ = Lib.join ((([kindS 3] ++ [g, itoaS n, modeS ⟨3, t, g, n, m, l, tx, nu, ht, r⟩]) ++ [tx]).map bl) (bl ⟨#[32]⟩) := by
  have e : wordsP ⟨3, t, g, n, m, l, tx, nu, ht, r⟩ = ([kindS 3] ++ [g, itoaS n, modeS ⟨3, t, g, n, m, l, tx, nu, ht, r⟩]) ++ [tx] := by
    unfold wordsP; rw [if_neg (by show ¬ (3 : Int) = 1; decide), if_neg (by show ¬ (3 : Int) = 2; decide), if_pos rfl, if_neg h]
  unfold printS; rw [e]; rfl
end
set_option maxRecDepth 100000 in
set_option maxHeartbeats 4000000 in
theorem print3C (t : Id) (g : ByteArray) (n : Int) (m : Bool) (l : List Aut) (tx : ByteArray) (nu ht : Int) (r : Aut) (v : Value) (w : World) (hE : Env w) (hv : AutsAt w v l) (hl : l.length ≤ 1000000) (htx : tx.size ≤ 9223372036854775807) (he : cmErr ⟨3, t, g, n, m, l, tx, nu, ht, r⟩ = 0) (hI : ItoaAt w n) (hM : ModeAt w ⟨3, t, g, n, m, l, tx, nu, ht, r⟩ v)
    (hlen : (printS ⟨3, t, g, n, m, l, tx, nu, ht, r⟩).length ≤ 1000000) :
    Calls Tryz.prog 14 #[.agg (cmC ⟨3, t, g, n, m, l, tx, nu, ht, r⟩ v).toArray] w fun e w' => e = .returned (.tuple #[.string (bs (printS ⟨3, t, g, n, m, l, tx, nu, ht, r⟩)), .int .i64 0]) ∧ Gr w w' := by
  have g0 := (Gr.refl w).alloc (.cells (cmC ⟨3, t, g, n, m, l, tx, nu, ht, r⟩ v).toArray 37)
  have HCK := Lib.hid (cmCheckC ⟨3, t, g, n, m, l, tx, nu, ht, r⟩ v _ (hE.gr g0) (hv.gr g0) hl htx)
  have B0 := Lib.hid (heap_alloc_new w (.cells (cmC ⟨3, t, g, n, m, l, tx, nu, ht, r⟩ v).toArray 37))
  have G0 := Lib.hid g0
  rw [he] at HCK
  have HI := Lib.hid hI; have HM := Lib.hid hM
  have HLEN := Lib.hid hlen
  clear g0 hE hv hl htx he hI hM hlen
  go_enter Tryz.func14, Tryz.ntmps14
  go_wp2_with fail
  refine HCK.out.mono ?_
  rintro e U ⟨rfl, hg1⟩
  have hb1 := (hg1.block (b := w.heap.size) (by simp)).trans B0.out
  have GU := Lib.hid (G0.out.trans hg1)
  obtain ⟨c0, c33, c34, c35, c36, c37, c38, c39, r1, q1, r39, q39, r40, q40, r0, q0, z⟩ := cm_facts hb1
  have HB1 := Lib.hid hb1
  clear hg1 hb1 B0 HCK
  go_wp2_with (go_at_call 28; refine (kindNameC _ _).mono ?_; rintro e w' ⟨rfl, rfl⟩; rw [ks3])
  have g2 := (Gr.refl U).alloc (.cells #[.string ⟨#[100, 101, 102, 105, 110, 101]⟩] 9)
  have hb2 := (g2.block z).trans HB1.out
  have ho2 : OwnS (U.alloc (.cells #[.string ⟨#[100, 101, 102, 105, 110, 101]⟩] 9)) w.heap.size (.slice (some ⟨U.heap.size, 0, none⟩) 1 1) [kindS 3] := OwnS.made (l := [kindS 3]) (heap_alloc_new U _) (by omega) (by decide)
  have hz2 : U.heap.size < (U.alloc (.cells #[.string ⟨#[100, 101, 102, 105, 110, 101]⟩] 9)).heap.size := by simp
  generalize U.alloc (.cells #[.string ⟨#[100, 101, 102, 105, 110, 101]⟩] 9) = W1 at *
  have G1 := Lib.hid (GU.out.trans g2)
  have HB2 := Lib.hid hb2
  have HO2 := Lib.hid ho2
  clear c0 c33 c34 c35 c36 c37 c38 c39 r1 q1 r39 q39 r40 q40 r0 q0 g2 ho2 HB1
  obtain ⟨c0, c33, c34, c35, c36, c37, c38, c39, r1, q1, r39, q39, r40, q40, r0, q0, z1⟩ := cm_facts hb2
  clear hb2
  simp only at c33 c34 c37
  have HP0 := Lib.hid (prt3_empty t g n m l tx nu ht r)
  have HP1 := Lib.hid (prt3_text t g n m l tx nu ht r)
  generalize hcm : (⟨3, t, g, n, m, l, tx, nu, ht, r⟩ : Cm) = cm at *
  have HCM := Lib.hid hcm
  clear hcm
  have KS : Hid (∀ W, Gr W1 W → W.cell? ⟨w.heap.size, 33, none⟩ = some (.string g) ∧ W.cell? ⟨w.heap.size, 34, none⟩ = some (.int .i64 n) ∧ W.cell? ⟨w.heap.size, 37, none⟩ = some (.string tx) ∧ hasRow W ⟨w.heap.size, 0, none⟩ 56 = true ∧ rowAt W ⟨w.heap.size, 0, none⟩ 56 = cmC cm v) := fun W hW => ⟨(hW.cell (p := ⟨w.heap.size, 33, none⟩) z1).trans c33, (hW.cell (p := ⟨w.heap.size, 34, none⟩) z1).trans c34, (hW.cell (p := ⟨w.heap.size, 37, none⟩) z1).trans c37, (hW.hasRow z1).trans r0, (hW.rowAt z1).trans q0⟩
  have hS0 := KS.out _ (Gr.refl W1).drew
  have hz0 : w.heap.size ≤ U.heap.size := by omega
  have HLS : Hid (∀ (W : World) (b : Nat), W.heap[b]? = some (.cells #[.string g, .string (itoaS n), .string (modeS cm)] 9 (0, 0)) → w.heap.size ≤ b → OwnS W w.heap.size (.slice (some ⟨b, 0, none⟩) 3 3) [g, itoaS n, modeS cm]) := fun W b h hb => OwnS.made (l := [g, itoaS n, modeS cm]) h hb (by simp)
  clear c33 c34 c37 r0 q0
  go_region_held_law (fun u => u.cell? ⟨w.heap.size, 33, none⟩ = some (.string g) ∧ u.cell? ⟨w.heap.size, 34, none⟩ = some (.int .i64 n) ∧ u.cell? ⟨w.heap.size, 37, none⟩ = some (.string tx) ∧ hasRow u ⟨w.heap.size, 0, none⟩ 56 = true ∧ rowAt u ⟨w.heap.size, 0, none⟩ 56 = cmC cm v) (first | exact hS0 | exact KS.out _ G4 | exact KS.out _ G5 | exact KS.out _ (G5.alloc _) | exact hS5)
    (first
      | (go_at_call 32; refine (HI.out _ (G1.out.trans (Gr.refl W1).drew)).mono ?_; rintro e w4 ⟨rfl, hg4⟩; have G4 := (Gr.refl W1).drew.trans hg4)
      | (go_at_call 33; refine (HM.out _ (G1.out.trans G4)).mono ?_; rintro e w5 ⟨rfl, hg5⟩; have G5 := G4.trans hg5)
      | (refine step_append_str rfl 48 rfl (.tmp 39) (.tmp 47) rfl w.heap.size (.slice (some ⟨U.heap.size, 0, none⟩) 1 1) [kindS 3] (by simp [Act.eval]) ((HO2.out.gr G5).gr ((Gr.refl w5).alloc _)) (.slice (some ⟨w5.heap.size, 0, none⟩) 3 3) [g, itoaS n, modeS cm] (by simp [Act.eval, Act.put]) (HLS.out _ _ (heap_alloc_new w5 _) (by have := G5.size; omega)) 4 rfl (by decide) (by have := G5.size; simp; omega) ?_; intro a1 c1 w1 ho1 hg1; have hS5 := And.intro (grown_cell hg1 (KS.out _ (G5.alloc _)).1 (by simp [Value.ownBlock]; omega)) (And.intro (grown_cell hg1 (KS.out _ (G5.alloc _)).2.1 (by simp [Value.ownBlock]; omega)) (And.intro (grown_cell hg1 (KS.out _ (G5.alloc _)).2.2.1 (by simp [Value.ownBlock]; omega)) (And.intro (grown_hasRow hg1 (KS.out _ (G5.alloc _)).2.2.2.1 (by simp [Value.ownBlock]; omega)) (grown_rowAt hg1 (KS.out _ (G5.alloc _)).2.2.2.1 (KS.out _ (G5.alloc _)).2.2.2.2 (by simp [Value.ownBlock]; omega)))))))
  have c37 := hS5.2.2.1
  have G6 := Lib.hid (((G1.out.trans G5).alloc (.cells #[.string g, .string (itoaS n), .string (modeS cm)] 9)).grown hg1 (fun k hk => by cases hk; exact GU.out.size))
  have HO6 := Lib.hid ho1
  clear hS0 hS5 hg1 ho1
  cases htx : tx.toList.isEmpty with
  | true =>
    have hps := HP0.out ((empty_iff tx).1 htx)
    rw [hps] at HLEN
    have HPS := Lib.hid hps
    clear hps
    go_wp2_with fail
    refine (OwnS.join (v := .slice a1 4 c1) HO6.out ⟨#[32]⟩ (Nat.le_trans HLEN.out (by decide)) (by simp)).mono ?_
    rintro e w2 ⟨rfl, hg2⟩
    have G7 := Lib.hid (G6.out.trans hg2)
    clear hg2
    go_wp2_with fail
    go_ret2
    exact ⟨congrArg (fun s => Ending.returned (Value.tuple #[.string (bs s), .int .i64 0])) (HPS.out.symm.trans (congrArg printS HCM.out.symm)), G7.out⟩
  | false =>
    have hps := HP1.out (fun h => by rw [(empty_iff tx).2 h] at htx; cases htx)
    rw [hps] at HLEN
    have HPS := Lib.hid hps
    have HO7 := Lib.hid (HO6.out.gr ((Gr.refl w1).alloc (.cells #[.string tx] 9)))
    have HO8 : Hid (OwnS (w1.alloc (.cells #[.string tx] 9)) w.heap.size (.slice (some ⟨w1.heap.size, 0, none⟩) 1 1) [tx]) := OwnS.made (l := [tx]) (heap_alloc_new w1 _) G6.out.size (by simp)
    have hz7 : w.heap.size ≤ (w1.alloc (.cells #[.string tx] 9)).heap.size := by have := G6.out.size; simp; omega
    clear hps
    go_wp2_with (refine wpList_append_str _ rfl _ _ rfl w.heap.size (.slice a1 4 c1) ([kindS 3] ++ [g, itoaS n, modeS cm]) (by simp [Act.eval, Act.put]) HO7.out (.slice (some ⟨w1.heap.size, 0, none⟩) 1 1) [tx] (by simp [Act.eval, Act.put]) HO8.out (by simp) hz7 ?_; intro a2 c2 w2 ho2 hg2)
    refine (OwnS.join (v := .slice a2 5 c2) ho2 ⟨#[32]⟩ (Nat.le_trans HLEN.out (by decide)) (by simp)).mono ?_
    rintro e w3 ⟨rfl, hg3⟩
    have G7 := Lib.hid (((G6.out.alloc (.cells #[.string tx] 9)).grown hg2 (fun k hk => (World.ownsRow.lt HO6.out k hk).1)).trans hg3)
    clear hg2 hg3 ho2
    go_wp2_with fail
    go_ret2
    exact ⟨congrArg (fun s => Ending.returned (Value.tuple #[.string (bs s), .int .i64 0])) (HPS.out.symm.trans (congrArg printS HCM.out.symm)), G7.out⟩
end Go.Proofs.YtcdcmohccbhchaaGreatDoor

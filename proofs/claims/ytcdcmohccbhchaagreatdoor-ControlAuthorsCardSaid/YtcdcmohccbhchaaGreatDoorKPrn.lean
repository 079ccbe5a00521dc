/- control.Print: what it returns, kind by kind; the callees' answers as premises. -/
import Derived.Test.YtcdcmohccbhchaaGreatDoorKStr
import Derived.Test.YtcdcmohccbhchaaGreatDoorKEnc
namespace Go.Proofs.YtcdcmohccbhchaaGreatDoor
open Go.RowKit

/-- The words of a command's text. -/
def modeS (c : Cm) : ByteArray := if c.moderated = true then bs (modT ++ 32 :: Lib.join (c.mods.map fun a => hexT a.toList) [44]) else bs openT
def itoaS (n : Int) : ByteArray := bs (Lib.itoa n)
def pubT (h : Int) (r : Aut) : Str := encL (UInt8.ofNat h.toNat :: r.toList)
def wordsP (c : Cm) : List ByteArray :=
  if c.kind = 1 then [kindS 1, bs (midT c.target)] else if c.kind = 2 then [kindS 2, bs (midT c.target), c.group]
  else if c.kind = 3 then [kindS 3] ++ [c.group, itoaS c.version, modeS c] ++ (if c.text = ⟨#[]⟩ then [] else [c.text])
  else if c.kind = 4 then [kindS 4] ++ [c.group, itoaS c.version] else [kindS 5] ++ [itoaS c.number, bs (pubT c.height c.root)]
def printS (c : Cm) : Str := Lib.join ((wordsP c).map bl) [32]

def ItoaAt (w : World) (n : Int) : Prop := ∀ U, Gr w U → Calls Tryz.prog 32 #[.int .i64 n] U fun e w' => e = .returned (.string (itoaS n)) ∧ Gr U w'
def ModeAt (w : World) (c : Cm) (v : Value) : Prop := ∀ U, Gr w U → Calls Tryz.prog 33 #[.agg (cmC c v).toArray] U fun e w' => e = .returned (.string (modeS c)) ∧ Gr U w'
theorem itoa_small {w : World} {n : Nat} (h : n < 100) : ItoaAt w (n : Int) := fun U _ => (Tryz.strconv_Itoa_small n h U).mono fun e w' ⟨he, hw⟩ => by
  subst hw
  refine ⟨?_, Gr.refl _⟩
  rw [he]; unfold itoaS bs; rw [Lib.itoa, if_neg (by omega), Int.toNat_natCast]
theorem grown_block {w w' : World} {row : Option Nat} (h : w.grownBy w' row) {b : Nat} {o : Obj} (hb : w.heap[b]? = some o) (hr : row ≠ some b) : w'.heap[b]? = some o :=
  (h.block b (Array.getElem?_eq_some_iff.1 hb).1 (fun e => hr e.symm)).trans hb
theorem grown_cell {w w' : World} {row : Option Nat} (h : w.grownBy w' row) {p : Addr} {v : Value} (hc : w.cell? p = some v) (hr : row ≠ some p.block) : w'.cell? p = some v :=
  (World.cell?_of_block (h.block p.block (World.block_lt_of_cell? w p hc) (fun e => hr e.symm))).trans hc
theorem grown_hasRow {w w' : World} {row : Option Nat} (h : w.grownBy w' row) {b k n : Nat} (hc : hasRow w ⟨b, k, none⟩ (n + 1) = true) (hr : row ≠ some b) : hasRow w' ⟨b, k, none⟩ (n + 1) = true := by
  have hlt := hasRow_lt hc (Nat.succ_pos n)
  rw [hasRow_congr fun i _ => World.cell?_of_block (w := w) (by rw [add_block]; exact h.block b hlt (fun e => hr e.symm))]; exact hc
theorem grown_rowAt {w w' : World} {row : Option Nat} (h : w.grownBy w' row) {b k n : Nat} {cs : List Value} (hc : hasRow w ⟨b, k, none⟩ (n + 1) = true) (hv : rowAt w ⟨b, k, none⟩ (n + 1) = cs) (hr : row ≠ some b) : rowAt w' ⟨b, k, none⟩ (n + 1) = cs := by
  have hlt := hasRow_lt hc (Nat.succ_pos n)
  rw [rowAt_congr fun i _ => World.cell?_of_block (w := w) (by rw [add_block]; exact h.block b hlt (fun e => hr e.symm))]; exact hv
theorem grown_size {w w' : World} {row : Option Nat} (h : w.grownBy w' row) : w.heap.size ≤ w'.heap.size := h.size

set_option maxRecDepth 100000 in
set_option maxHeartbeats 4000000 in
theorem print4C (t : Id) (g : ByteArray) (n : Int) (m : Bool) (l : List Aut) (tx : ByteArray) (nu ht : Int) (r : Aut) (v : Value) (w : World) (hE : Env w) (hv : AutsAt w v l) (hl : l.length ≤ 1000000) (htx : tx.size ≤ 9223372036854775807) (he : cmErr ⟨4, t, g, n, m, l, tx, nu, ht, r⟩ = 0) (hI : ItoaAt w n)
    (hlen : (printS ⟨4, t, g, n, m, l, tx, nu, ht, r⟩).length ≤ 1000000) :
    Calls Tryz.prog 14 #[.agg (cmC ⟨4, t, g, n, m, l, tx, nu, ht, r⟩ v).toArray] w fun e w' => e = .returned (.tuple #[.string (bs (printS ⟨4, t, g, n, m, l, tx, nu, ht, r⟩)), .int .i64 0]) ∧ Gr w w' := by
  have g0 := (Gr.refl w).alloc (.cells (cmC ⟨4, t, g, n, m, l, tx, nu, ht, r⟩ v).toArray 37)
  have HCK := Lib.hid (cmCheckC ⟨4, t, g, n, m, l, tx, nu, ht, r⟩ v _ (hE.gr g0) (hv.gr g0) hl htx)
  have B0 := Lib.hid (heap_alloc_new w (.cells (cmC ⟨4, t, g, n, m, l, tx, nu, ht, r⟩ v).toArray 37))
  have G0 := Lib.hid g0
  rw [he] at HCK
  have HI := Lib.hid hI
  have HLEN := Lib.hid hlen
  clear g0 hE hv hl htx he hI hlen
  go_enter Tryz.func14, Tryz.ntmps14
  go_wp2_with fail
  refine HCK.out.mono ?_
  rintro e U ⟨rfl, hg1⟩
  have hb1 := (hg1.block (b := w.heap.size) (by simp)).trans B0.out
  have GU := Lib.hid (G0.out.trans hg1)
  obtain ⟨c0, c33, c34, c35, c36, c37, c38, c39, r1, q1, r39, q39, r40, q40, r0, q0, z⟩ := cm_facts hb1
  have HB1 := Lib.hid hb1
  clear hg1 hb1 B0 HCK
  go_wp2_with (go_at_call 28; refine (kindNameC _ _).mono ?_; rintro e w' ⟨rfl, rfl⟩; rw [ks4])
  have g2 := (Gr.refl U).alloc (.cells #[.string ⟨#[114, 101, 109, 111, 118, 101]⟩] 9)
  have hb2 := (g2.block z).trans HB1.out
  have ho2 : OwnS (U.alloc (.cells #[.string ⟨#[114, 101, 109, 111, 118, 101]⟩] 9)) w.heap.size (.slice (some ⟨U.heap.size, 0, none⟩) 1 1) [kindS 4] := OwnS.made (l := [kindS 4]) (heap_alloc_new U _) (by omega) (by decide)
  have hz2 : U.heap.size < (U.alloc (.cells #[.string ⟨#[114, 101, 109, 111, 118, 101]⟩] 9)).heap.size := by simp
  generalize U.alloc (.cells #[.string ⟨#[114, 101, 109, 111, 118, 101]⟩] 9) = W1 at *
  have G1 := Lib.hid (GU.out.trans g2)
  have HB2 := Lib.hid hb2
  have HO2 := Lib.hid ho2
  clear c0 c33 c34 c35 c36 c37 c38 c39 r1 q1 r39 q39 r40 q40 r0 q0 g2 ho2 HB1
  obtain ⟨c0, c33, c34, c35, c36, c37, c38, c39, r1, q1, r39, q39, r40, q40, r0, q0, z1⟩ := cm_facts hb2
  clear hb2
  have KS : Hid (∀ W, Gr W1 W → W.cell? ⟨w.heap.size, 33, none⟩ = some (.string g) ∧ W.cell? ⟨w.heap.size, 34, none⟩ = some (.int .i64 n)) := fun W hW => ⟨(hW.cell (p := ⟨w.heap.size, 33, none⟩) z1).trans c33, (hW.cell (p := ⟨w.heap.size, 34, none⟩) z1).trans c34⟩
  have hS0 := KS.out _ (Gr.refl W1).drew
  have hz0 : w.heap.size ≤ U.heap.size := by omega
  go_region_held_law (fun u => u.cell? ⟨w.heap.size, 33, none⟩ = some (.string g) ∧ u.cell? ⟨w.heap.size, 34, none⟩ = some (.int .i64 n)) (first | exact hS0 | exact KS.out _ G4 | exact KS.out _ (G4.alloc _) | exact hS5)
    (first
      | (go_at_call 32; refine (HI.out _ (G1.out.trans (Gr.refl W1).drew)).mono ?_; rintro e w4 ⟨rfl, hg4⟩; have G4 := (Gr.refl W1).drew.trans hg4)
      | (refine step_append_str rfl 66 rfl (.tmp 59) (.tmp 65) rfl w.heap.size (.slice (some ⟨U.heap.size, 0, none⟩) 1 1) [kindS 4] (by simp [Act.eval]) ((HO2.out.gr G4).gr ((Gr.refl w4).alloc _)) (.slice (some ⟨w4.heap.size, 0, none⟩) 2 2) [g, itoaS n] (by simp [Act.eval]) (OwnS.made (l := [g, itoaS n]) (heap_alloc_new w4 _) (by have := G4.size; omega) (by simp)) 3 rfl (by decide) (by have := G4.size; simp; omega) ?_; intro a1 c1 w1 ho1 hg1; have hS5 := And.intro (grown_cell hg1 (KS.out _ (G4.alloc _)).1 (by simp [Value.ownBlock]; omega)) (grown_cell hg1 (KS.out _ (G4.alloc _)).2 (by simp [Value.ownBlock]; omega))))
  go_wp2_with fail
  have hps : printS ⟨4, t, g, n, m, l, tx, nu, ht, r⟩ = Lib.join (([kindS 4] ++ [g, itoaS n]).map bl) (bl ⟨#[32]⟩) := rfl
  rw [hps] at HLEN
  refine (OwnS.join (v := .slice a1 3 c1) ho1 ⟨#[32]⟩ (Nat.le_trans HLEN.out (by decide)) (by simp)).mono ?_
  rintro e w2 ⟨rfl, hg2⟩
  have G5 := Lib.hid ((((G1.out.trans G4).alloc (.cells #[.string g, .string (itoaS n)] 9)).grown hg1 (fun k hk => by cases hk; exact GU.out.size)).trans hg2)
  clear hg1 hg2 ho1
  go_wp2_with fail
  go_ret2
  exact ⟨rfl, G5.out⟩
end Go.Proofs.YtcdcmohccbhchaaGreatDoor

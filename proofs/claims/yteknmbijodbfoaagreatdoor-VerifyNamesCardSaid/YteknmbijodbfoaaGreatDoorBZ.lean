/- canonical.Form of the example's contents. canonical.Id of the example's contents, canonical.Digest. canonical.Sign of the example's contents. canonical.Verify of the example's contents. -/
import Derived.Test.YteknmbijodbfoaaGreatDoorBY
import Derived.Deep.RegionHeld3
import Derived.Test.YteknmbijodbfoaaGreatDoorBS
import Derived.Test.YteknmbijodbfoaaGreatDoorBX
namespace Go.Proofs.YteknmbijodbfoaaGreatDoor
open Go.RowKit

theorem bStr0 (s0 s1 s2 s3 s4 s5 s6 s7 s8 s9 s10 : ByteArray) (w : World) : (Instr.build 111 #[(0, .string s0), (1, .string s1), (2, .string s2), (3, .string s3), (4, .string s4), (5, .string s5), (6, .string s6), (7, .string s7), (8, .string s8), (9, .string s9), (10, .string s10)]).run Tryz.prog w = .ok (.agg #[.string s0, .string s1, .string s2, .string s3, .string s4, .string s5, .string s6, .string s7, .string s8, .string s9, .string s10]) w := by kernel_rfl
@[go_sem] theorem bdStr (s0 s1 s2 s3 s4 s5 s6 s7 s8 s9 s10 : ByteArray) (w : World) : bdR Tryz.prog 111 #[(0, .string s0), (1, .string s1), (2, .string s2), (3, .string s3), (4, .string s4), (5, .string s5), (6, .string s6), (7, .string s7), (8, .string s8), (9, .string s9), (10, .string s10)] w = .ok (.value (.agg #[.string s0, .string s1, .string s2, .string s3, .string s4, .string s5, .string s6, .string s7, .string s8, .string s9, .string s10])) w := bd_of (bStr0 s0 s1 s2 s3 s4 s5 s6 s7 s8 s9 s10 w)
/-- The end of a region: a block number, a world. -/
def AtEndF (A : Nat → Act) (R : Nat → World → Prop) (e : Exit) (a : Act) (w : World) : Prop := match e with | .normal => ∃ x, R x w ∧ a = A x | _ => False
theorem wp_toF {P : Program} {c : Code} {Q' : Exit → Act → World → Prop} {a : Act} {w : World} {A : Nat → Act} (R : Nat → World → Prop) (h : c.wp P (AtEndF A R) a w) (hq : ∀ x W, R x W → Q' .normal (A x) W) : c.wp P Q' a w :=
  Code.wp_mono (fun e a w h => by cases e <;> first | exact h.elim | (obtain ⟨x, h2, h3⟩ := h; subst h3; exact hq x w h2)) h
theorem range_ofR {w : World} {b k n : Nat} {cs : List Value} (h1 : hasRow w ⟨b, k, none⟩ n = true) (h2 : rowAt w ⟨b, k, none⟩ n = cs) (hl : cs.length = n) : w.rangeAt b k cs := fun j v hj => by
  have hlt := (List.getElem?_eq_some_iff.1 hj).1
  exact (cell_rowV h1 h2 j (by omega)).trans hj
/-- The words of a form. -/
def wordsK : List ByteArray := [⟨#[110, 97, 109, 101]⟩, ⟨#[97, 117, 116, 104, 111, 114]⟩, ⟨#[100, 97, 116, 101]⟩, ⟨#[103, 114, 111, 117, 112, 115]⟩, ⟨#[115, 117, 98, 106, 101, 99, 116]⟩, ⟨#[114, 101, 102, 101, 114, 101, 110, 99, 101, 115]⟩, ⟨#[115, 117, 112, 101, 114, 115, 101, 100, 101, 115]⟩, ⟨#[99, 111, 110, 116, 114, 111, 108]⟩, ⟨#[100, 105, 115, 116, 114, 105, 98, 117, 116, 105, 111, 110]⟩, ⟨#[107, 101, 121]⟩, ⟨#[108, 101, 97, 102]⟩]
def WordsAt (W : World) : Prop := ∀ i s, wordsK[i]? = some s → W.cell? ⟨2, i, none⟩ = some (.string s)
theorem WordsAt.lt {W : World} (h : WordsAt W) : 2 < W.heap.size := World.block_lt_of_cell? W _ (h 0 _ rfl)
theorem WordsAt.gr {W W' : World} (h : WordsAt W) (hg : Gr W W') : WordsAt W' := fun i s hi => (hg.cell (p := ⟨2, i, none⟩) h.lt).trans (h i s hi)
theorem bl_app3 (a b : ByteArray) : bl (a ++ b) = bl a ++ bl b := by
  show (a ++ b).data.toList = _
  rw [ByteArray.data_append]; simp [bl]
/-- A line of a form. -/
def lineL (p : ByteArray × ByteArray) : List UInt8 := bl p.1 ++ [32] ++ bl p.2 ++ [10]
/-- The values of a form. -/
def valsK (a r : V16) (s : ByteArray) : List ByteArray := [eS, bs (autT a), zS, aS, s, eS, eS, eS, eS, keyS r, zS]
def valsC (a r : V16) (s : ByteArray) : List Value := (valsK a r s).map Value.string
theorem ix11_0 (s0 s1 s2 s3 s4 s5 s6 s7 s8 s9 s10 : ByteArray) (w : World) : (Instr.index 111 (.agg #[.string s0, .string s1, .string s2, .string s3, .string s4, .string s5, .string s6, .string s7, .string s8, .string s9, .string s10]) (.int .i64 0)).run Tryz.prog w = .ok (.string s0) w := by kernel_rfl
theorem ix11_1 (s0 s1 s2 s3 s4 s5 s6 s7 s8 s9 s10 : ByteArray) (w : World) : (Instr.index 111 (.agg #[.string s0, .string s1, .string s2, .string s3, .string s4, .string s5, .string s6, .string s7, .string s8, .string s9, .string s10]) (.int .i64 1)).run Tryz.prog w = .ok (.string s1) w := by kernel_rfl
theorem ix11_2 (s0 s1 s2 s3 s4 s5 s6 s7 s8 s9 s10 : ByteArray) (w : World) : (Instr.index 111 (.agg #[.string s0, .string s1, .string s2, .string s3, .string s4, .string s5, .string s6, .string s7, .string s8, .string s9, .string s10]) (.int .i64 2)).run Tryz.prog w = .ok (.string s2) w := by kernel_rfl
theorem ix11_3 (s0 s1 s2 s3 s4 s5 s6 s7 s8 s9 s10 : ByteArray) (w : World) : (Instr.index 111 (.agg #[.string s0, .string s1, .string s2, .string s3, .string s4, .string s5, .string s6, .string s7, .string s8, .string s9, .string s10]) (.int .i64 3)).run Tryz.prog w = .ok (.string s3) w := by kernel_rfl
theorem ix11_4 (s0 s1 s2 s3 s4 s5 s6 s7 s8 s9 s10 : ByteArray) (w : World) : (Instr.index 111 (.agg #[.string s0, .string s1, .string s2, .string s3, .string s4, .string s5, .string s6, .string s7, .string s8, .string s9, .string s10]) (.int .i64 4)).run Tryz.prog w = .ok (.string s4) w := by kernel_rfl
theorem ix11_5 (s0 s1 s2 s3 s4 s5 s6 s7 s8 s9 s10 : ByteArray) (w : World) : (Instr.index 111 (.agg #[.string s0, .string s1, .string s2, .string s3, .string s4, .string s5, .string s6, .string s7, .string s8, .string s9, .string s10]) (.int .i64 5)).run Tryz.prog w = .ok (.string s5) w := by kernel_rfl
theorem ix11_6 (s0 s1 s2 s3 s4 s5 s6 s7 s8 s9 s10 : ByteArray) (w : World) : (Instr.index 111 (.agg #[.string s0, .string s1, .string s2, .string s3, .string s4, .string s5, .string s6, .string s7, .string s8, .string s9, .string s10]) (.int .i64 6)).run Tryz.prog w = .ok (.string s6) w := by kernel_rfl
theorem ix11_7 (s0 s1 s2 s3 s4 s5 s6 s7 s8 s9 s10 : ByteArray) (w : World) : (Instr.index 111 (.agg #[.string s0, .string s1, .string s2, .string s3, .string s4, .string s5, .string s6, .string s7, .string s8, .string s9, .string s10]) (.int .i64 7)).run Tryz.prog w = .ok (.string s7) w := by kernel_rfl
theorem ix11_8 (s0 s1 s2 s3 s4 s5 s6 s7 s8 s9 s10 : ByteArray) (w : World) : (Instr.index 111 (.agg #[.string s0, .string s1, .string s2, .string s3, .string s4, .string s5, .string s6, .string s7, .string s8, .string s9, .string s10]) (.int .i64 8)).run Tryz.prog w = .ok (.string s8) w := by kernel_rfl
theorem ix11_9 (s0 s1 s2 s3 s4 s5 s6 s7 s8 s9 s10 : ByteArray) (w : World) : (Instr.index 111 (.agg #[.string s0, .string s1, .string s2, .string s3, .string s4, .string s5, .string s6, .string s7, .string s8, .string s9, .string s10]) (.int .i64 9)).run Tryz.prog w = .ok (.string s9) w := by kernel_rfl
theorem ix11_10 (s0 s1 s2 s3 s4 s5 s6 s7 s8 s9 s10 : ByteArray) (w : World) : (Instr.index 111 (.agg #[.string s0, .string s1, .string s2, .string s3, .string s4, .string s5, .string s6, .string s7, .string s8, .string s9, .string s10]) (.int .i64 10)).run Tryz.prog w = .ok (.string s10) w := by kernel_rfl
theorem agg11 : aggB Tryz.prog 111 = true := by kernel_rfl
theorem k11 : Tryz.prog.cellsOf 111 = 11 := by kernel_rfl
def formL (a r : V16) (s : ByteArray) : List UInt8 := (wordsK.zip (valsK a r s)).flatMap lineL ++ [10]
set_option maxRecDepth 100000 in
set_option maxHeartbeats 4000000 in
theorem formK (a r : V16) (s : ByteArray) (g c : Nat) (h1 : prB (bl s) = true) (h2 : sqB s = true) (h3 : s.size ≤ 200) (h1c : 1 ≤ c) (ht : (pubT 1 r).length = 24) (w : World) (hE : Env w) (hA : Alph w) (hW : WordsAt w) (hm : 5 < w.heap.size) (hg : g < w.heap.size) (hgc : w.cell? ⟨g, 0, none⟩ = some (.string aS)) :
    Calls Tryz.prog 29 #[.agg (cttC (ctK a r s g c)).toArray] w fun e w' => e = .returned (.tuple #[.string (bs (formL a r s)), .int .i64 0]) ∧ Gr w w' := by
  obtain ⟨n, hn⟩ : ∃ n, w.heap.size = n := ⟨_, rfl⟩
  have HN := Lib.hid hn
  obtain ⟨k, hk⟩ : ∃ k, ctK a r s g c = k := ⟨_, rfl⟩
  obtain ⟨U0, hU⟩ : ∃ U0, (w.alloc (.cells (cttC k).toArray 41)).alloc (.cells #[.int .i64 0] 105) = U0 := ⟨_, rfl⟩
  have H0 : Hid (U0.heap[n]? = some (.cells (cttC k).toArray 41 (0, 0))) := by
    show _ = _; rw [← hU]
    exact (((Gr.refl _).alloc _).block (by simp; omega)).trans (heap_new _ _ _ (by omega))
  have H1 : Hid (CkAt U0 (n + 1) 0) := by
    show _ = _; rw [← hU]
    exact heap_new _ _ _ (by simp; omega)
  have HG : Hid (Gr w U0) := by show Gr _ _; rw [← hU]; exact ((Gr.refl w).alloc _).alloc _
  have HEn : Hid (∀ W, U0.grownBy W (some (n + 1)) → Env W) := fun W hW => by
    obtain ⟨m, hmm⟩ := hE
    exact ⟨m, grown_cell hW ((HG.out.cell (p := ⟨5, 0, none⟩) hm).trans hmm) (by simp; omega)⟩
  have HGw : Hid (∀ W, U0.grownBy W (some (n + 1)) → Gr w W) := fun W hW => HG.out.grown hW (fun k hk => by have h : n + 1 = k := Option.some.inj hk; omega)
  have HGc : Hid (∀ W, U0.grownBy W (some (n + 1)) → W.cell? ⟨g, 0, none⟩ = some (.string aS) ∧ CtFacts W n k) := fun W hW => ⟨grown_cell hW ((HG.out.cell (p := ⟨g, 0, none⟩) hg).trans hgc) (by simp; omega), ct_facts (grown_block hW H0.out (by simp))⟩
  have T4 : Hid (∀ W, CkAt W (n + 1) 0 → Calls Tryz.prog 43 #[.pointer (some ⟨n + 1, 0, none⟩), .int .i64 0] W (CkPost (n + 1) 0 W)) := fun W hc => by
    have := takeCk (n + 1) 0 0 W hc
    rw [whenZ] at this; exact this
  have T1 : Hid (∀ W, U0.grownBy W (some (n + 1)) → Calls Tryz.prog 44 #[.agg (cttC k).toArray] W fun e w' => e = .returned (.int .i64 0) ∧ Gr W w') := fun W hW => by
    rw [← hk]; exact contentCheckK a r s g c h1 h2 h3 h1c W (HEn.out W hW) (Nat.lt_of_lt_of_le hm (HGw.out W hW).size) (Nat.lt_of_lt_of_le hg (HGw.out W hW).size) (HGc.out W hW).1
  have T2 : Hid (∀ W, U0.grownBy W (some (n + 1)) → Calls Tryz.prog 47 #[.agg (cttC k).toArray] W fun e w' => e = .returned (.tuple #[.string (keyS r), .int .i64 0]) ∧ Gr W w') := fun W hW => by
    rw [← hk]; exact keyTextK a r s g c W (hA.gr (HGw.out W hW)) ht
  have T3 := Lib.hid (authorTextC a)
  have T5 : Hid (∀ W, Calls Tryz.prog 46 #[.slice none 0 0] W fun e w' => e = .returned (.tuple #[.string eS, .int .i64 0]) ∧ Gr W w') := fun W => refsPrintNone W
  have T6 : Hid (∀ W, Calls Tryz.prog 50 #[.agg (bC zId).toArray] W fun e w' => e = .returned (.string eS) ∧ Gr W w') := fun W => optNone W
  have T7 := Lib.hid digits0
  have HWd := Lib.hid hW
  have HVL : Hid ([.string eS, .string (bs (autT a)), .string zS, .string aS, .string s, .string eS, .string eS, .string eS, .string eS, .string (keyS r), .string zS] = valsC a r s) := rfl
  have k1 : k.name = eS := by rw [← hk]; rfl
  have k1b : bC k.author = bC a := by rw [← hk]; rfl
  have k2 : k.date = 0 := by rw [← hk]; rfl
  have k3 : k.groups = .slice (some ⟨g, 0, none⟩) 1 c := by rw [← hk]; rfl
  have k4 : k.subject = s := by rw [← hk]; rfl
  have k5 : k.refs = .slice none 0 0 := by rw [← hk]; rfl
  have k5b : bC k.sup = bC zId := by rw [← hk]; rfl
  have k5c : k.control = eS := by rw [← hk]; rfl
  have k6 : k.dist = eS := by rw [← hk]; rfl
  have k7 : k.number = 0 := by rw [← hk]; rfl
  have k8 : pubC k.height k.root = pubC 1 r := by rw [← hk]; rfl
  have k9 : k.leaf = 0 := by rw [← hk]; rfl
  have k10 : k.body = eS := by rw [← hk]; rfl
  have hes : eS.size = 0 := rfl
  have hzs : zS.size = 1 := rfl
  have has : aS.size = 1 := rfl
  rw [hk]
  replace hU := Lib.hid hU
  have b75 : oneB (cttC k) = true := by rw [← hk]; exact ctK_one a r s g c
  obtain ⟨gc, f⟩ := HGc.out U0 (grown_refl U0 _)
  obtain ⟨f1, f2, f3, f4, f5, f6, f7, f8, f9, f10, f11, f12, f13, f14, f15, f16, f17, f18, f19⟩ := f
  simp only [k1, k1b, k2, k3, k4, k5, k5b, k5c, k6, k7, k8, k9, k10] at f1 f2 f3 f4 f5 f6 f7 f8 f9 f10 f11 f12 f13 f14 f15 f16 f17 f18
  clear hk hE hgc hA hW
  go_enter Tryz.func29, Tryz.ntmps29
  go_wp2_with fail
  try simp only [hn]
  rw [hU.out]
  refine (T1.out U0 (grown_refl U0 _)).mono ?_
  rintro e1 w1 ⟨rfl, g1⟩
  have G1 := Lib.hid (grown_trans (grown_refl U0 _) (grown_gr (row := some (n + 1)) g1))
  have C1 := Lib.hid (CkAt.gr H1.out g1)
  clear g1
  clear gc f1 f2 f3 f4 f5 f6 f7 f8 f9 f10 f11 f12 f13 f14 f15 f16 f17 f18 f19
  obtain ⟨gc, f⟩ := HGc.out w1 G1.out
  obtain ⟨f1, f2, f3, f4, f5, f6, f7, f8, f9, f10, f11, f12, f13, f14, f15, f16, f17, f18, f19⟩ := f
  simp only [k1, k1b, k2, k3, k4, k5, k5b, k5c, k6, k7, k8, k9, k10] at f1 f2 f3 f4 f5 f6 f7 f8 f9 f10 f11 f12 f13 f14 f15 f16 f17 f18
  go_wp2_with fail
  refine (T4.out w1 C1.out).mono ?_
  rintro e2 w2 ⟨rfl, c2, g2⟩
  have G2 := Lib.hid (grown_trans G1.out g2)
  have C2 := Lib.hid c2
  clear c2 g2
  clear gc f1 f2 f3 f4 f5 f6 f7 f8 f9 f10 f11 f12 f13 f14 f15 f16 f17 f18 f19
  obtain ⟨gc, f⟩ := HGc.out w2 G2.out
  obtain ⟨f1, f2, f3, f4, f5, f6, f7, f8, f9, f10, f11, f12, f13, f14, f15, f16, f17, f18, f19⟩ := f
  simp only [k1, k1b, k2, k3, k4, k5, k5b, k5c, k6, k7, k8, k9, k10] at f1 f2 f3 f4 f5 f6 f7 f8 f9 f10 f11 f12 f13 f14 f15 f16 f17 f18
  go_wp2_with fail
  refine (formatList1 g c w2 (HEn.out _ G2.out) (Nat.lt_of_lt_of_le hg (HGw.out _ G2.out).size) h1c gc).mono ?_
  rintro e3 w3 ⟨rfl, g3⟩
  have G3 := Lib.hid (grown_trans G2.out (grown_gr (row := some (n + 1)) g3))
  have C3 := Lib.hid (CkAt.gr C2.out g3)
  clear g3
  clear gc f1 f2 f3 f4 f5 f6 f7 f8 f9 f10 f11 f12 f13 f14 f15 f16 f17 f18 f19
  obtain ⟨gc, f⟩ := HGc.out w3 G3.out
  obtain ⟨f1, f2, f3, f4, f5, f6, f7, f8, f9, f10, f11, f12, f13, f14, f15, f16, f17, f18, f19⟩ := f
  simp only [k1, k1b, k2, k3, k4, k5, k5b, k5c, k6, k7, k8, k9, k10] at f1 f2 f3 f4 f5 f6 f7 f8 f9 f10 f11 f12 f13 f14 f15 f16 f17 f18
  go_wp2_with fail
  refine (T4.out w3 C3.out).mono ?_
  rintro e4 w4 ⟨rfl, c4, g4⟩
  have G4 := Lib.hid (grown_trans G3.out g4)
  have C4 := Lib.hid c4
  clear c4 g4
  clear gc f1 f2 f3 f4 f5 f6 f7 f8 f9 f10 f11 f12 f13 f14 f15 f16 f17 f18 f19
  obtain ⟨gc, f⟩ := HGc.out w4 G4.out
  obtain ⟨f1, f2, f3, f4, f5, f6, f7, f8, f9, f10, f11, f12, f13, f14, f15, f16, f17, f18, f19⟩ := f
  simp only [k1, k1b, k2, k3, k4, k5, k5b, k5c, k6, k7, k8, k9, k10] at f1 f2 f3 f4 f5 f6 f7 f8 f9 f10 f11 f12 f13 f14 f15 f16 f17 f18
  go_wp2_with fail
  refine (T5.out w4).mono ?_
  rintro e5 w5 ⟨rfl, g5⟩
  have G5 := Lib.hid (grown_trans G4.out (grown_gr (row := some (n + 1)) g5))
  have C5 := Lib.hid (CkAt.gr C4.out g5)
  clear g5
  clear gc f1 f2 f3 f4 f5 f6 f7 f8 f9 f10 f11 f12 f13 f14 f15 f16 f17 f18 f19
  obtain ⟨gc, f⟩ := HGc.out w5 G5.out
  obtain ⟨f1, f2, f3, f4, f5, f6, f7, f8, f9, f10, f11, f12, f13, f14, f15, f16, f17, f18, f19⟩ := f
  simp only [k1, k1b, k2, k3, k4, k5, k5b, k5c, k6, k7, k8, k9, k10] at f1 f2 f3 f4 f5 f6 f7 f8 f9 f10 f11 f12 f13 f14 f15 f16 f17 f18
  go_wp2_with fail
  refine (T4.out w5 C5.out).mono ?_
  rintro e6 w6 ⟨rfl, c6, g6⟩
  have G6 := Lib.hid (grown_trans G5.out g6)
  have C6 := Lib.hid c6
  clear c6 g6
  clear gc f1 f2 f3 f4 f5 f6 f7 f8 f9 f10 f11 f12 f13 f14 f15 f16 f17 f18 f19
  obtain ⟨gc, f⟩ := HGc.out w6 G6.out
  obtain ⟨f1, f2, f3, f4, f5, f6, f7, f8, f9, f10, f11, f12, f13, f14, f15, f16, f17, f18, f19⟩ := f
  simp only [k1, k1b, k2, k3, k4, k5, k5b, k5c, k6, k7, k8, k9, k10] at f1 f2 f3 f4 f5 f6 f7 f8 f9 f10 f11 f12 f13 f14 f15 f16 f17 f18
  go_wp2_with fail
  refine (T2.out w6 G6.out).mono ?_
  rintro e7 w7 ⟨rfl, g7⟩
  have G7 := Lib.hid (grown_trans G6.out (grown_gr (row := some (n + 1)) g7))
  have C7 := Lib.hid (CkAt.gr C6.out g7)
  clear g7
  clear gc f1 f2 f3 f4 f5 f6 f7 f8 f9 f10 f11 f12 f13 f14 f15 f16 f17 f18 f19
  obtain ⟨gc, f⟩ := HGc.out w7 G7.out
  obtain ⟨f1, f2, f3, f4, f5, f6, f7, f8, f9, f10, f11, f12, f13, f14, f15, f16, f17, f18, f19⟩ := f
  simp only [k1, k1b, k2, k3, k4, k5, k5b, k5c, k6, k7, k8, k9, k10] at f1 f2 f3 f4 f5 f6 f7 f8 f9 f10 f11 f12 f13 f14 f15 f16 f17 f18
  go_wp2_with fail
  refine (T4.out w7 C7.out).mono ?_
  rintro e8 w8 ⟨rfl, c8, g8⟩
  have G8 := Lib.hid (grown_trans G7.out g8)
  have C8 := Lib.hid c8
  clear c8 g8
  clear gc f1 f2 f3 f4 f5 f6 f7 f8 f9 f10 f11 f12 f13 f14 f15 f16 f17 f18 f19
  obtain ⟨gc, f⟩ := HGc.out w8 G8.out
  obtain ⟨f1, f2, f3, f4, f5, f6, f7, f8, f9, f10, f11, f12, f13, f14, f15, f16, f17, f18, f19⟩ := f
  simp only [k1, k1b, k2, k3, k4, k5, k5b, k5c, k6, k7, k8, k9, k10] at f1 f2 f3 f4 f5 f6 f7 f8 f9 f10 f11 f12 f13 f14 f15 f16 f17 f18
  have c0 : w8.cell? ⟨n + 1, 0, none⟩ = some (.int .i64 0) := cell_block (cs := [.int .i64 0]) C8.out 0
  have z0 := lt_of_heap C8.out
  go_wp2_with fail
  obtain ⟨au, hau⟩ : ∃ au, bs (autT a) = au := ⟨_, rfl⟩
  obtain ⟨ks, hks⟩ : ∃ ks, keyS r = ks := ⟨_, rfl⟩
  obtain ⟨ee, hee⟩ : ∃ ee, eS = ee := ⟨_, rfl⟩
  obtain ⟨zz, hzz⟩ : ∃ zz, zS = zz := ⟨_, rfl⟩
  obtain ⟨aa, haa⟩ : ∃ aa, aS = aa := ⟨_, rfl⟩
  rw [hau] at T3 HVL
  rw [hks] at HVL ⊢
  rw [hee] at HVL T6 ⊢
  rw [hzz] at HVL T7
  rw [haa] at HVL ⊢
  have sz0 : ee.size ≤ 300 := by rw [← hee]; exact Nat.zero_le _
  have sz1 : au.size ≤ 300 := by rw [← hau, ← bl_length]; show (autT a).length ≤ 300; rw [autT_len]; decide
  have sz2 : zz.size ≤ 300 := by rw [← hzz]; decide
  have sz3 : aa.size ≤ 300 := by rw [← haa]; decide
  have sz4 : s.size ≤ 300 := by omega
  have sz5 : ks.size ≤ 300 := by
    rw [← hks, ← bl_length]; unfold keyS; rw [bl_app3, bl_app3]
    show (_ ++ pubT 1 r).length ≤ 300
    rw [List.length_append, ht]; decide
  replace sz0 := Lib.hid sz0
  replace sz1 := Lib.hid sz1
  replace sz2 := Lib.hid sz2
  replace sz3 := Lib.hid sz3
  replace sz4 := Lib.hid sz4
  replace sz5 := Lib.hid sz5
  have HG8 : Hid (Gr w w8) := HGw.out _ G8.out
  have KB : Hid (∀ u, Gr w8 u → u.cell? ⟨n, 74, none⟩ = some (.string ee)) := fun u hu => by
    have q := ct_facts ((hu.block (lt_of_heap (grown_block G8.out H0.out (by simp)))).trans (grown_block G8.out H0.out (by simp)))
    rw [q.body, k10, hee]
  have hn8 : Hid (n < w8.heap.size) := lt_of_heap (grown_block G8.out H0.out (by simp))
  have KS : Hid (∀ u, Gr w8 u → u.cell? ⟨n, 0, none⟩ = some (.string ee) ∧ u.rangeAt n 1 (bC a) ∧ u.cell? ⟨n, 17, none⟩ = some (.int .i64 0) ∧ u.cell? ⟨n, 19, none⟩ = some (.string s) ∧ u.rangeAt n 21 (bC zId) ∧ u.cell? ⟨n, 53, none⟩ = some (.string ee) ∧ u.cell? ⟨n, 54, none⟩ = some (.string ee) ∧ u.cell? ⟨n, 73, none⟩ = some (.int .i64 0)) := fun u hu => by
    have q := ct_facts ((hu.block (lt_of_heap (grown_block G8.out H0.out (by simp)))).trans (grown_block G8.out H0.out (by simp)))
    refine ⟨by rw [q.name, k1, hee], ?_, by rw [q.date, k2], by rw [q.subject, k4], ?_, by rw [q.control, k5c, hee], by rw [q.dist, k6, hee], by rw [q.leaf, k9]⟩
    · rw [← k1b]; exact range_ofR q.au0 q.au1 (bC16_len _)
    · rw [← k5b]; exact range_ofR q.su0 q.su1 (bC32_len _)
  have hS0 := KS.out _ (Gr.refl w8).drew
  have hu35 := Tryz.underlying35
  have hi35 : (Tryz.prog.info? 35).map (·.size) = some (bC a).length := by rw [bC16_len]; kernel_rfl
  have hu39 := Tryz.underlying39
  have hi39 : (Tryz.prog.info? 39).map (·.size) = some (bC zId).length := by rw [bC32_len]; kernel_rfl
  have hu111 := Tryz.underlying111
  have hi111 : (Tryz.prog.info? 111).map (·.size) = some ([.string ee, .string au, .string zz, .string aa, .string s, .string ee, .string ee, .string ee, .string ee, .string ks, .string zz] : List Value).length := by kernel_rfl
  have hi11 : (Tryz.prog.info? 111).map (·.size) = some 11 := by kernel_rfl
  have hl11 : ([.string ee, .string au, .string zz, .string aa, .string s, .string ee, .string ee, .string ee, .string ee, .string ks, .string zz] : List Value).length = 11 := rfl
  have ho11 : ∀ v ∈ ([.string ee, .string au, .string zz, .string aa, .string s, .string ee, .string ee, .string ee, .string ee, .string ks, .string zz] : List Value), v.oneCell' = true := by
    intro v hv
    simp only [List.mem_cons, List.not_mem_nil, or_false] at hv
    rcases hv with rfl | rfl | rfl | rfl | rfl | rfl | rfl | rfl | rfl | rfl | rfl <;> rfl
  clear f1 f2 f3 f4 f5 f6 f7 f8 f9 f10 f11 f12 f13 f14 f15 f16 f17 f18 c0
  apply wp_toF (R := fun x W' => Hid (W'.heap[x]? = some (.cells (valsC a r s).toArray 111 (0, 0))) ∧ Hid (Gr w8 W'))
  case h =>
    refine wp_region_held_drew (S := fun u => u.cell? ⟨n, 0, none⟩ = some (.string ee) ∧ u.rangeAt n 1 (bC a) ∧ u.cell? ⟨n, 17, none⟩ = some (.int .i64 0) ∧ u.cell? ⟨n, 19, none⟩ = some (.string s) ∧ u.rangeAt n 21 (bC zId) ∧ u.cell? ⟨n, 53, none⟩ = some (.string ee) ∧ u.cell? ⟨n, 54, none⟩ = some (.string ee) ∧ u.cell? ⟨n, 73, none⟩ = some (.int .i64 0)) (by kernel_rfl) hS0 (fun hHeld => ?_)
    refine wpAnyH_take (i := 0) (oi := { dst := some 44, op := Op.fieldAddr 41 (Operand.tmp 1) 0, type := 0, pos := "canonical.go:139", after := #[], guard := none }) (v := ?_) rfl (by kernel_rfl) (by kernel_rfl) (by kernel_rfl) (fun _ _ _ h => h) (Or.inl ⟨by rfl, ?_⟩) (by assumption) ?_
    rotate_left
    · intro u hSw; (try dsimp only at hSw); go_simp; all_goals with_reducible rfl
    try simp only [Act.put, List.setIfInBounds_toArray, List.set_cons_zero, List.set_cons_succ]
    refine wpAnyH_take (i := 1) (oi := { dst := some 45, op := Op.load 9 (Operand.tmp 44), type := 9, pos := "canonical.go:139", after := #[⟨0, Ground.data⟩], guard := none }) (v := ?_) rfl (by kernel_rfl) (by kernel_rfl) (by kernel_rfl) (fun _ _ _ h => h) (Or.inl ⟨by rfl, ?_⟩) (by assumption) ?_
    rotate_left
    · intro u hSw; (try dsimp only at hSw); go_simp; all_goals with_reducible rfl
    try simp only [Act.put, List.setIfInBounds_toArray, List.set_cons_zero, List.set_cons_succ]
    refine wpAnyH_take (i := 2) (oi := { dst := some 46, op := Op.fieldAddr 41 (Operand.tmp 1) 1, type := 0, pos := "canonical.go:139", after := #[], guard := none }) (v := ?_) rfl (by kernel_rfl) (by kernel_rfl) (by kernel_rfl) (fun _ _ _ h => h) (Or.inl ⟨by rfl, ?_⟩) (by assumption) ?_
    rotate_left
    · intro u hSw; (try dsimp only at hSw); go_simp; all_goals with_reducible rfl
    try simp only [Act.put, List.setIfInBounds_toArray, List.set_cons_zero, List.set_cons_succ]
    refine wpAnyH_take (i := 3) (oi := { dst := some 47, op := Op.load 35 (Operand.tmp 46), type := 35, pos := "canonical.go:139", after := #[⟨2, Ground.data⟩], guard := none }) (v := _) rfl (by kernel_rfl) (by kernel_rfl) (by kernel_rfl) (fun _ _ _ h => h) (yieldsIf_load_mid (by rfl) 35 _ rfl n 1 rfl (bC a) _ (fun u hSw => hSw.2.1) hu35 rfl hi35) (by assumption) ?_
    try simp only [Act.put, List.setIfInBounds_toArray, List.set_cons_zero, List.set_cons_succ]
    refine wpAnyH_take (i := 5) (oi := { dst := some 49, op := Op.fieldAddr 41 (Operand.tmp 1) 2, type := 0, pos := "canonical.go:139", after := #[], guard := none }) (v := ?_) rfl (by kernel_rfl) (by kernel_rfl) (by kernel_rfl) (fun _ _ _ h => h) (Or.inl ⟨by rfl, ?_⟩) (by assumption) ?_
    rotate_left
    · intro u hSw; (try dsimp only at hSw); go_simp; all_goals with_reducible rfl
    try simp only [Act.put, List.setIfInBounds_toArray, List.set_cons_zero, List.set_cons_succ]
    refine wpAnyH_take (i := 6) (oi := { dst := some 50, op := Op.load 3 (Operand.tmp 49), type := 3, pos := "canonical.go:139", after := #[⟨5, Ground.data⟩], guard := none }) (v := ?_) rfl (by kernel_rfl) (by kernel_rfl) (by kernel_rfl) (fun _ _ _ h => h) (Or.inl ⟨by rfl, ?_⟩) (by assumption) ?_
    rotate_left
    · intro u hSw; (try dsimp only at hSw); go_simp; all_goals with_reducible rfl
    try simp only [Act.put, List.setIfInBounds_toArray, List.set_cons_zero, List.set_cons_succ]
    refine wpAnyH_take (i := 8) (oi := { dst := some 52, op := Op.move (Operand.tmp 5), type := 9, pos := "canonical.go:139", after := #[], guard := none }) (v := ?_) rfl (by kernel_rfl) (by kernel_rfl) (by kernel_rfl) (fun _ _ _ h => h) (Or.inl ⟨by rfl, ?_⟩) (by assumption) ?_
    rotate_left
    · intro u hSw; (try dsimp only at hSw); go_simp; all_goals with_reducible rfl
    try simp only [Act.put, List.setIfInBounds_toArray, List.set_cons_zero, List.set_cons_succ]
    refine wpAnyH_take (i := 9) (oi := { dst := some 53, op := Op.fieldAddr 41 (Operand.tmp 1) 4, type := 0, pos := "canonical.go:139", after := #[], guard := none }) (v := ?_) rfl (by kernel_rfl) (by kernel_rfl) (by kernel_rfl) (fun _ _ _ h => h) (Or.inl ⟨by rfl, ?_⟩) (by assumption) ?_
    rotate_left
    · intro u hSw; (try dsimp only at hSw); go_simp; all_goals with_reducible rfl
    try simp only [Act.put, List.setIfInBounds_toArray, List.set_cons_zero, List.set_cons_succ]
    refine wpAnyH_take (i := 10) (oi := { dst := some 54, op := Op.load 9 (Operand.tmp 53), type := 9, pos := "canonical.go:139", after := #[⟨9, Ground.data⟩], guard := none }) (v := ?_) rfl (by kernel_rfl) (by kernel_rfl) (by kernel_rfl) (fun _ _ _ h => h) (Or.inl ⟨by rfl, ?_⟩) (by assumption) ?_
    rotate_left
    · intro u hSw; (try dsimp only at hSw); go_simp; all_goals with_reducible rfl
    try simp only [Act.put, List.setIfInBounds_toArray, List.set_cons_zero, List.set_cons_succ]
    refine wpAnyH_take (i := 11) (oi := { dst := some 55, op := Op.move (Operand.tmp 7), type := 9, pos := "canonical.go:139", after := #[], guard := none }) (v := ?_) rfl (by kernel_rfl) (by kernel_rfl) (by kernel_rfl) (fun _ _ _ h => h) (Or.inl ⟨by rfl, ?_⟩) (by assumption) ?_
    rotate_left
    · intro u hSw; (try dsimp only at hSw); go_simp; all_goals with_reducible rfl
    try simp only [Act.put, List.setIfInBounds_toArray, List.set_cons_zero, List.set_cons_succ]
    refine wpAnyH_take (i := 12) (oi := { dst := some 56, op := Op.fieldAddr 41 (Operand.tmp 1) 6, type := 0, pos := "canonical.go:139", after := #[], guard := none }) (v := ?_) rfl (by kernel_rfl) (by kernel_rfl) (by kernel_rfl) (fun _ _ _ h => h) (Or.inl ⟨by rfl, ?_⟩) (by assumption) ?_
    rotate_left
    · intro u hSw; (try dsimp only at hSw); go_simp; all_goals with_reducible rfl
    try simp only [Act.put, List.setIfInBounds_toArray, List.set_cons_zero, List.set_cons_succ]
    refine wpAnyH_take (i := 13) (oi := { dst := some 57, op := Op.load 39 (Operand.tmp 56), type := 39, pos := "canonical.go:139", after := #[⟨12, Ground.data⟩], guard := none }) (v := _) rfl (by kernel_rfl) (by kernel_rfl) (by kernel_rfl) (fun _ _ _ h => h) (yieldsIf_load_mid (by rfl) 39 _ rfl n 21 rfl (bC zId) _ (fun u hSw => hSw.2.2.2.2.1) hu39 rfl hi39) (by assumption) ?_
    try simp only [Act.put, List.setIfInBounds_toArray, List.set_cons_zero, List.set_cons_succ]
    refine wpAnyH_take (i := 15) (oi := { dst := some 59, op := Op.fieldAddr 41 (Operand.tmp 1) 7, type := 0, pos := "canonical.go:139", after := #[], guard := none }) (v := ?_) rfl (by kernel_rfl) (by kernel_rfl) (by kernel_rfl) (fun _ _ _ h => h) (Or.inl ⟨by rfl, ?_⟩) (by assumption) ?_
    rotate_left
    · intro u hSw; (try dsimp only at hSw); go_simp; all_goals with_reducible rfl
    try simp only [Act.put, List.setIfInBounds_toArray, List.set_cons_zero, List.set_cons_succ]
    refine wpAnyH_take (i := 16) (oi := { dst := some 60, op := Op.load 9 (Operand.tmp 59), type := 9, pos := "canonical.go:139", after := #[⟨15, Ground.data⟩], guard := none }) (v := ?_) rfl (by kernel_rfl) (by kernel_rfl) (by kernel_rfl) (fun _ _ _ h => h) (Or.inl ⟨by rfl, ?_⟩) (by assumption) ?_
    rotate_left
    · intro u hSw; (try dsimp only at hSw); go_simp; all_goals with_reducible rfl
    try simp only [Act.put, List.setIfInBounds_toArray, List.set_cons_zero, List.set_cons_succ]
    refine wpAnyH_take (i := 17) (oi := { dst := some 61, op := Op.fieldAddr 41 (Operand.tmp 1) 8, type := 0, pos := "canonical.go:139", after := #[], guard := none }) (v := ?_) rfl (by kernel_rfl) (by kernel_rfl) (by kernel_rfl) (fun _ _ _ h => h) (Or.inl ⟨by rfl, ?_⟩) (by assumption) ?_
    rotate_left
    · intro u hSw; (try dsimp only at hSw); go_simp; all_goals with_reducible rfl
    try simp only [Act.put, List.setIfInBounds_toArray, List.set_cons_zero, List.set_cons_succ]
    refine wpAnyH_take (i := 18) (oi := { dst := some 62, op := Op.load 9 (Operand.tmp 61), type := 9, pos := "canonical.go:139", after := #[⟨17, Ground.data⟩], guard := none }) (v := ?_) rfl (by kernel_rfl) (by kernel_rfl) (by kernel_rfl) (fun _ _ _ h => h) (Or.inl ⟨by rfl, ?_⟩) (by assumption) ?_
    rotate_left
    · intro u hSw; (try dsimp only at hSw); go_simp; all_goals with_reducible rfl
    try simp only [Act.put, List.setIfInBounds_toArray, List.set_cons_zero, List.set_cons_succ]
    refine wpAnyH_take (i := 19) (oi := { dst := some 63, op := Op.move (Operand.tmp 8), type := 9, pos := "canonical.go:139", after := #[], guard := none }) (v := ?_) rfl (by kernel_rfl) (by kernel_rfl) (by kernel_rfl) (fun _ _ _ h => h) (Or.inl ⟨by rfl, ?_⟩) (by assumption) ?_
    rotate_left
    · intro u hSw; (try dsimp only at hSw); go_simp; all_goals with_reducible rfl
    try simp only [Act.put, List.setIfInBounds_toArray, List.set_cons_zero, List.set_cons_succ]
    refine wpAnyH_take (i := 20) (oi := { dst := some 64, op := Op.fieldAddr 41 (Operand.tmp 1) 11, type := 0, pos := "canonical.go:139", after := #[], guard := none }) (v := ?_) rfl (by kernel_rfl) (by kernel_rfl) (by kernel_rfl) (fun _ _ _ h => h) (Or.inl ⟨by rfl, ?_⟩) (by assumption) ?_
    rotate_left
    · intro u hSw; (try dsimp only at hSw); go_simp; all_goals with_reducible rfl
    try simp only [Act.put, List.setIfInBounds_toArray, List.set_cons_zero, List.set_cons_succ]
    refine wpAnyH_take (i := 21) (oi := { dst := some 65, op := Op.load 3 (Operand.tmp 64), type := 3, pos := "canonical.go:139", after := #[⟨20, Ground.data⟩], guard := none }) (v := ?_) rfl (by kernel_rfl) (by kernel_rfl) (by kernel_rfl) (fun _ _ _ h => h) (Or.inl ⟨by rfl, ?_⟩) (by assumption) ?_
    rotate_left
    · intro u hSw; (try dsimp only at hSw); go_simp; all_goals with_reducible rfl
    try simp only [Act.put, List.setIfInBounds_toArray, List.set_cons_zero, List.set_cons_succ]
    have P0 : Gr w8 w8.drew := (Gr.refl _).drew
    obtain ⟨v0, hv0⟩ : ∃ v, w8.drew = v := ⟨_, rfl⟩
    rw [hv0] at P0 hHeld ⊢
    refine wpAnyH_ready (rs := [4, 24]) (by kernel_rfl) (by simp) ?_
    refine AllReadyH.cons (o := { dst := some 48, op := Op.call { callee := Callee.value (Operand.func 48), args := #[Operand.tmp 47], argTypes := #[35] }, type := 9, pos := "canonical.go:140", after := #[⟨3, Ground.data⟩], guard := none }) rfl (fun K hK => ?_) (AllReadyH.cons (o := { dst := some 9, op := Op.alloc 111, type := 0, pos := "canonical.go:139", after := #[], guard := none }) rfl (fun K hK => ?_) AllReadyH.nil)
    · go_simp
      go_at_call 48
      refine (T3.out _).mono ?_
      rintro e u1 ⟨rfl, g⟩
      have P1 := Gr.trans P0 g
      try go_wp2_with fail
      clear hHeld
      refine hK.out _ _ (KS.out _ P1) (fun hHeld => ?_)
      clear hK K
      try simp only [Act.put, List.setIfInBounds_toArray, List.set_cons_zero, List.set_cons_succ]
      refine wpAnyH_ready (rs := [7, 24]) (by kernel_rfl) (by simp) ?_
      refine AllReadyH.cons (o := { dst := some 51, op := Op.call { callee := Callee.value (Operand.func 49), args := #[Operand.tmp 50], argTypes := #[3] }, type := 9, pos := "canonical.go:140", after := #[⟨6, Ground.data⟩, ⟨4, Ground.chain⟩], guard := none }) rfl (fun K hK => ?_) (AllReadyH.cons (o := { dst := some 9, op := Op.alloc 111, type := 0, pos := "canonical.go:139", after := #[], guard := none }) rfl (fun K hK => ?_) AllReadyH.nil)
      · go_simp
        go_at_call 49
        refine (T7.out _).mono ?_
        rintro e u ⟨rfl, rfl⟩
        try go_wp2_with fail
        clear hHeld
        refine hK.out _ _ (KS.out _ P1) (fun hHeld => ?_)
        clear hK K
        try simp only [Act.put, List.setIfInBounds_toArray, List.set_cons_zero, List.set_cons_succ]
        refine wpAnyH_ready (rs := [14, 24]) (by kernel_rfl) (by simp) ?_
        refine AllReadyH.cons (o := { dst := some 58, op := Op.call { callee := Callee.value (Operand.func 50), args := #[Operand.tmp 57], argTypes := #[39] }, type := 9, pos := "canonical.go:141", after := #[⟨13, Ground.data⟩, ⟨7, Ground.chain⟩], guard := none }) rfl (fun K hK => ?_) (AllReadyH.cons (o := { dst := some 9, op := Op.alloc 111, type := 0, pos := "canonical.go:139", after := #[], guard := none }) rfl (fun K hK => ?_) AllReadyH.nil)
        · go_simp
          go_at_call 50
          refine (T6.out _).mono ?_
          rintro e u3 ⟨rfl, g⟩
          have P3 := Gr.trans P1 g
          try go_wp2_with fail
          clear hHeld
          refine hK.out _ _ (KS.out _ P3) (fun hHeld => ?_)
          clear hK K
          try simp only [Act.put, List.setIfInBounds_toArray, List.set_cons_zero, List.set_cons_succ]
          refine wpAnyH_ready (rs := [22, 24]) (by kernel_rfl) (by simp) ?_
          refine AllReadyH.cons (o := { dst := some 66, op := Op.call { callee := Callee.value (Operand.func 49), args := #[Operand.tmp 65], argTypes := #[3] }, type := 9, pos := "canonical.go:141", after := #[⟨21, Ground.data⟩, ⟨14, Ground.chain⟩], guard := none }) rfl (fun K hK => ?_) (AllReadyH.cons (o := { dst := some 9, op := Op.alloc 111, type := 0, pos := "canonical.go:139", after := #[], guard := none }) rfl (fun K hK => ?_) AllReadyH.nil)
          · go_simp
            go_at_call 49
            refine (T7.out _).mono ?_
            rintro e u ⟨rfl, rfl⟩
            try go_wp2_with fail
            clear hHeld
            refine hK.out _ _ (KS.out _ P3) (fun hHeld => ?_)
            clear hK K
            try simp only [Act.put, List.setIfInBounds_toArray, List.set_cons_zero, List.set_cons_succ]
            refine wpAnyH_take (i := 23) (oi := { dst := some 67, op := Op.build 111 #[(0, Operand.tmp 45), (1, Operand.tmp 48), (2, Operand.tmp 51), (3, Operand.tmp 52), (4, Operand.tmp 54), (5, Operand.tmp 55), (6, Operand.tmp 58), (7, Operand.tmp 60), (8, Operand.tmp 62), (9, Operand.tmp 63), (10, Operand.tmp 66)], type := 111, pos := "canonical.go:139", after := #[⟨1, Ground.data⟩, ⟨4, Ground.data⟩, ⟨7, Ground.data⟩, ⟨8, Ground.data⟩, ⟨10, Ground.data⟩, ⟨11, Ground.data⟩, ⟨14, Ground.data⟩, ⟨16, Ground.data⟩, ⟨18, Ground.data⟩, ⟨19, Ground.data⟩, ⟨22, Ground.data⟩], guard := none }) (v := ?_) rfl (by kernel_rfl) (by kernel_rfl) (by kernel_rfl) (fun _ _ _ h => h) (Or.inl ⟨by rfl, ?_⟩) (by assumption) ?_
            rotate_left
            · intro u hSw; (try dsimp only at hSw); go_simp; all_goals with_reducible rfl
            try simp only [Act.put, List.setIfInBounds_toArray, List.set_cons_zero, List.set_cons_succ]
            refine wpAnyH_ready (rs := [24]) (by kernel_rfl) (by simp) ?_
            refine AllReadyH.cons (o := { dst := some 9, op := Op.alloc 111, type := 0, pos := "canonical.go:139", after := #[], guard := none }) rfl (fun K hK => ?_) AllReadyH.nil
            go_simp
            have E5 := heap_alloc_new u3 (.cells #[.string ⟨#[]⟩, .string ⟨#[]⟩, .string ⟨#[]⟩, .string ⟨#[]⟩, .string ⟨#[]⟩, .string ⟨#[]⟩, .string ⟨#[]⟩, .string ⟨#[]⟩, .string ⟨#[]⟩, .string ⟨#[]⟩, .string ⟨#[]⟩] 111)
            have P5 := Gr.alloc P3 (.cells #[.string ⟨#[]⟩, .string ⟨#[]⟩, .string ⟨#[]⟩, .string ⟨#[]⟩, .string ⟨#[]⟩, .string ⟨#[]⟩, .string ⟨#[]⟩, .string ⟨#[]⟩, .string ⟨#[]⟩, .string ⟨#[]⟩, .string ⟨#[]⟩] 111)
            have hxb := Gr.size P3
            obtain ⟨u5, hu⟩ : ∃ u, World.alloc u3 (.cells #[.string ⟨#[]⟩, .string ⟨#[]⟩, .string ⟨#[]⟩, .string ⟨#[]⟩, .string ⟨#[]⟩, .string ⟨#[]⟩, .string ⟨#[]⟩, .string ⟨#[]⟩, .string ⟨#[]⟩, .string ⟨#[]⟩, .string ⟨#[]⟩] 111) = u := ⟨_, rfl⟩
            rw [hu] at E5 P5 ⊢
            obtain ⟨x, hx⟩ : ∃ x, (u3).heap.size = x := ⟨_, rfl⟩
            rw [hx] at E5 hxb ⊢
            clear hHeld
            refine hK.out _ _ (KS.out _ P5) (fun hHeld => ?_)
            clear hK K
            try simp only [Act.put, List.setIfInBounds_toArray, List.set_cons_zero, List.set_cons_succ]
            refine wpAnyH_ready (rs := [25]) (by kernel_rfl) (by simp) ?_
            refine AllReadyH.cons (o := { dst := none, op := Op.store 111 (Operand.tmp 9) (Operand.tmp 67), type := 0, pos := "canonical.go:139", after := #[⟨24, Ground.data⟩, ⟨23, Ground.data⟩, ⟨22, Ground.chain⟩, ⟨0, Ground.phase⟩, ⟨1, Ground.phase⟩, ⟨2, Ground.phase⟩, ⟨3, Ground.phase⟩, ⟨4, Ground.phase⟩, ⟨5, Ground.phase⟩, ⟨6, Ground.phase⟩, ⟨7, Ground.phase⟩, ⟨8, Ground.phase⟩, ⟨9, Ground.phase⟩, ⟨10, Ground.phase⟩, ⟨11, Ground.phase⟩, ⟨12, Ground.phase⟩, ⟨13, Ground.phase⟩, ⟨14, Ground.phase⟩, ⟨15, Ground.phase⟩, ⟨16, Ground.phase⟩, ⟨17, Ground.phase⟩, ⟨18, Ground.phase⟩, ⟨19, Ground.phase⟩, ⟨20, Ground.phase⟩, ⟨21, Ground.phase⟩, ⟨22, Ground.phase⟩, ⟨23, Ground.phase⟩, ⟨24, Ground.phase⟩], guard := none }) rfl (fun K hK => ?_) AllReadyH.nil
            rw [if_pos (by rfl)]
            refine wp_store_mid _ _ _ rfl x 0 (List.toArray _) rfl rfl (there_block E5 rfl) hi11 (all_oneCell_toArray ho11) ?_
            have PZ := (P5).setsOwn (b := x) hxb (valsC a r s) 0
            rw [HVL.out]
            have EZ := sets_whole E5 (cs := valsC a r s) rfl
            refine hK.out _ _ (KS.out _ PZ) (fun hHeld => ?_)
            refine wpAnyH_done (by kernel_rfl) ?_ _
            exact ⟨x, ⟨Lib.hid EZ, Lib.hid PZ⟩, rfl⟩
          · go_simp
            have E6 := heap_alloc_new u3 (.cells #[.string ⟨#[]⟩, .string ⟨#[]⟩, .string ⟨#[]⟩, .string ⟨#[]⟩, .string ⟨#[]⟩, .string ⟨#[]⟩, .string ⟨#[]⟩, .string ⟨#[]⟩, .string ⟨#[]⟩, .string ⟨#[]⟩, .string ⟨#[]⟩] 111)
            have P6 := Gr.alloc P3 (.cells #[.string ⟨#[]⟩, .string ⟨#[]⟩, .string ⟨#[]⟩, .string ⟨#[]⟩, .string ⟨#[]⟩, .string ⟨#[]⟩, .string ⟨#[]⟩, .string ⟨#[]⟩, .string ⟨#[]⟩, .string ⟨#[]⟩, .string ⟨#[]⟩] 111)
            have hxb := Gr.size P3
            obtain ⟨u6, hu⟩ : ∃ u, World.alloc u3 (.cells #[.string ⟨#[]⟩, .string ⟨#[]⟩, .string ⟨#[]⟩, .string ⟨#[]⟩, .string ⟨#[]⟩, .string ⟨#[]⟩, .string ⟨#[]⟩, .string ⟨#[]⟩, .string ⟨#[]⟩, .string ⟨#[]⟩, .string ⟨#[]⟩] 111) = u := ⟨_, rfl⟩
            rw [hu] at E6 P6 ⊢
            obtain ⟨x, hx⟩ : ∃ x, (u3).heap.size = x := ⟨_, rfl⟩
            rw [hx] at E6 hxb ⊢
            clear hHeld
            refine hK.out _ _ (KS.out _ P6) (fun hHeld => ?_)
            clear hK K
            try simp only [Act.put]
            refine wpAnyH_ready (rs := [22]) (by kernel_rfl) (by simp) ?_
            refine AllReadyH.cons (o := { dst := some 66, op := Op.call { callee := Callee.value (Operand.func 49), args := #[Operand.tmp 65], argTypes := #[3] }, type := 9, pos := "canonical.go:141", after := #[⟨21, Ground.data⟩, ⟨14, Ground.chain⟩], guard := none }) rfl (fun K hK => ?_) AllReadyH.nil
            · go_simp
              go_at_call 49
              refine (T7.out _).mono ?_
              rintro e u ⟨rfl, rfl⟩
              try go_wp2_with fail
              clear hHeld
              refine hK.out _ _ (KS.out _ P6) (fun hHeld => ?_)
              clear hK K
              try simp only [Act.put, List.setIfInBounds_toArray, List.set_cons_zero, List.set_cons_succ]
              refine wpAnyH_take (i := 23) (oi := { dst := some 67, op := Op.build 111 #[(0, Operand.tmp 45), (1, Operand.tmp 48), (2, Operand.tmp 51), (3, Operand.tmp 52), (4, Operand.tmp 54), (5, Operand.tmp 55), (6, Operand.tmp 58), (7, Operand.tmp 60), (8, Operand.tmp 62), (9, Operand.tmp 63), (10, Operand.tmp 66)], type := 111, pos := "canonical.go:139", after := #[⟨1, Ground.data⟩, ⟨4, Ground.data⟩, ⟨7, Ground.data⟩, ⟨8, Ground.data⟩, ⟨10, Ground.data⟩, ⟨11, Ground.data⟩, ⟨14, Ground.data⟩, ⟨16, Ground.data⟩, ⟨18, Ground.data⟩, ⟨19, Ground.data⟩, ⟨22, Ground.data⟩], guard := none }) (v := ?_) rfl (by kernel_rfl) (by kernel_rfl) (by kernel_rfl) (fun _ _ _ h => h) (Or.inl ⟨by rfl, ?_⟩) (by assumption) ?_
              rotate_left
              · intro u hSw; (try dsimp only at hSw); go_simp; all_goals with_reducible rfl
              try simp only [Act.put, List.setIfInBounds_toArray, List.set_cons_zero, List.set_cons_succ]
              refine wpAnyH_ready (rs := [25]) (by kernel_rfl) (by simp) ?_
              refine AllReadyH.cons (o := { dst := none, op := Op.store 111 (Operand.tmp 9) (Operand.tmp 67), type := 0, pos := "canonical.go:139", after := #[⟨24, Ground.data⟩, ⟨23, Ground.data⟩, ⟨22, Ground.chain⟩, ⟨0, Ground.phase⟩, ⟨1, Ground.phase⟩, ⟨2, Ground.phase⟩, ⟨3, Ground.phase⟩, ⟨4, Ground.phase⟩, ⟨5, Ground.phase⟩, ⟨6, Ground.phase⟩, ⟨7, Ground.phase⟩, ⟨8, Ground.phase⟩, ⟨9, Ground.phase⟩, ⟨10, Ground.phase⟩, ⟨11, Ground.phase⟩, ⟨12, Ground.phase⟩, ⟨13, Ground.phase⟩, ⟨14, Ground.phase⟩, ⟨15, Ground.phase⟩, ⟨16, Ground.phase⟩, ⟨17, Ground.phase⟩, ⟨18, Ground.phase⟩, ⟨19, Ground.phase⟩, ⟨20, Ground.phase⟩, ⟨21, Ground.phase⟩, ⟨22, Ground.phase⟩, ⟨23, Ground.phase⟩, ⟨24, Ground.phase⟩], guard := none }) rfl (fun K hK => ?_) AllReadyH.nil
              rw [if_pos (by rfl)]
              refine wp_store_mid _ _ _ rfl x 0 (List.toArray _) rfl rfl (there_block E6 rfl) hi11 (all_oneCell_toArray ho11) ?_
              have PZ := (P6).setsOwn (b := x) hxb (valsC a r s) 0
              rw [HVL.out]
              have EZ := sets_whole E6 (cs := valsC a r s) rfl
              refine hK.out _ _ (KS.out _ PZ) (fun hHeld => ?_)
              refine wpAnyH_done (by kernel_rfl) ?_ _
              exact ⟨x, ⟨Lib.hid EZ, Lib.hid PZ⟩, rfl⟩
        · go_simp
          have E8 := heap_alloc_new u1 (.cells #[.string ⟨#[]⟩, .string ⟨#[]⟩, .string ⟨#[]⟩, .string ⟨#[]⟩, .string ⟨#[]⟩, .string ⟨#[]⟩, .string ⟨#[]⟩, .string ⟨#[]⟩, .string ⟨#[]⟩, .string ⟨#[]⟩, .string ⟨#[]⟩] 111)
          have P8 := Gr.alloc P1 (.cells #[.string ⟨#[]⟩, .string ⟨#[]⟩, .string ⟨#[]⟩, .string ⟨#[]⟩, .string ⟨#[]⟩, .string ⟨#[]⟩, .string ⟨#[]⟩, .string ⟨#[]⟩, .string ⟨#[]⟩, .string ⟨#[]⟩, .string ⟨#[]⟩] 111)
          have hxb := Gr.size P1
          obtain ⟨u8, hu⟩ : ∃ u, World.alloc u1 (.cells #[.string ⟨#[]⟩, .string ⟨#[]⟩, .string ⟨#[]⟩, .string ⟨#[]⟩, .string ⟨#[]⟩, .string ⟨#[]⟩, .string ⟨#[]⟩, .string ⟨#[]⟩, .string ⟨#[]⟩, .string ⟨#[]⟩, .string ⟨#[]⟩] 111) = u := ⟨_, rfl⟩
          rw [hu] at E8 P8 ⊢
          obtain ⟨x, hx⟩ : ∃ x, (u1).heap.size = x := ⟨_, rfl⟩
          rw [hx] at E8 hxb ⊢
          clear hHeld
          refine hK.out _ _ (KS.out _ P8) (fun hHeld => ?_)
          clear hK K
          try simp only [Act.put]
          refine wpAnyH_ready (rs := [14]) (by kernel_rfl) (by simp) ?_
          refine AllReadyH.cons (o := { dst := some 58, op := Op.call { callee := Callee.value (Operand.func 50), args := #[Operand.tmp 57], argTypes := #[39] }, type := 9, pos := "canonical.go:141", after := #[⟨13, Ground.data⟩, ⟨7, Ground.chain⟩], guard := none }) rfl (fun K hK => ?_) AllReadyH.nil
          · go_simp
            go_at_call 50
            refine (T6.out _).mono ?_
            rintro e u9 ⟨rfl, g⟩
            have P9 := Gr.trans P8 g
            have E9 := (g.block (lt_of_heap E8)).trans E8
            try go_wp2_with fail
            clear hHeld
            refine hK.out _ _ (KS.out _ P9) (fun hHeld => ?_)
            clear hK K
            try simp only [Act.put, List.setIfInBounds_toArray, List.set_cons_zero, List.set_cons_succ]
            refine wpAnyH_ready (rs := [22]) (by kernel_rfl) (by simp) ?_
            refine AllReadyH.cons (o := { dst := some 66, op := Op.call { callee := Callee.value (Operand.func 49), args := #[Operand.tmp 65], argTypes := #[3] }, type := 9, pos := "canonical.go:141", after := #[⟨21, Ground.data⟩, ⟨14, Ground.chain⟩], guard := none }) rfl (fun K hK => ?_) AllReadyH.nil
            · go_simp
              go_at_call 49
              refine (T7.out _).mono ?_
              rintro e u ⟨rfl, rfl⟩
              try go_wp2_with fail
              clear hHeld
              refine hK.out _ _ (KS.out _ P9) (fun hHeld => ?_)
              clear hK K
              try simp only [Act.put, List.setIfInBounds_toArray, List.set_cons_zero, List.set_cons_succ]
              refine wpAnyH_take (i := 23) (oi := { dst := some 67, op := Op.build 111 #[(0, Operand.tmp 45), (1, Operand.tmp 48), (2, Operand.tmp 51), (3, Operand.tmp 52), (4, Operand.tmp 54), (5, Operand.tmp 55), (6, Operand.tmp 58), (7, Operand.tmp 60), (8, Operand.tmp 62), (9, Operand.tmp 63), (10, Operand.tmp 66)], type := 111, pos := "canonical.go:139", after := #[⟨1, Ground.data⟩, ⟨4, Ground.data⟩, ⟨7, Ground.data⟩, ⟨8, Ground.data⟩, ⟨10, Ground.data⟩, ⟨11, Ground.data⟩, ⟨14, Ground.data⟩, ⟨16, Ground.data⟩, ⟨18, Ground.data⟩, ⟨19, Ground.data⟩, ⟨22, Ground.data⟩], guard := none }) (v := ?_) rfl (by kernel_rfl) (by kernel_rfl) (by kernel_rfl) (fun _ _ _ h => h) (Or.inl ⟨by rfl, ?_⟩) (by assumption) ?_
              rotate_left
              · intro u hSw; (try dsimp only at hSw); go_simp; all_goals with_reducible rfl
              try simp only [Act.put, List.setIfInBounds_toArray, List.set_cons_zero, List.set_cons_succ]
              refine wpAnyH_ready (rs := [25]) (by kernel_rfl) (by simp) ?_
              refine AllReadyH.cons (o := { dst := none, op := Op.store 111 (Operand.tmp 9) (Operand.tmp 67), type := 0, pos := "canonical.go:139", after := #[⟨24, Ground.data⟩, ⟨23, Ground.data⟩, ⟨22, Ground.chain⟩, ⟨0, Ground.phase⟩, ⟨1, Ground.phase⟩, ⟨2, Ground.phase⟩, ⟨3, Ground.phase⟩, ⟨4, Ground.phase⟩, ⟨5, Ground.phase⟩, ⟨6, Ground.phase⟩, ⟨7, Ground.phase⟩, ⟨8, Ground.phase⟩, ⟨9, Ground.phase⟩, ⟨10, Ground.phase⟩, ⟨11, Ground.phase⟩, ⟨12, Ground.phase⟩, ⟨13, Ground.phase⟩, ⟨14, Ground.phase⟩, ⟨15, Ground.phase⟩, ⟨16, Ground.phase⟩, ⟨17, Ground.phase⟩, ⟨18, Ground.phase⟩, ⟨19, Ground.phase⟩, ⟨20, Ground.phase⟩, ⟨21, Ground.phase⟩, ⟨22, Ground.phase⟩, ⟨23, Ground.phase⟩, ⟨24, Ground.phase⟩], guard := none }) rfl (fun K hK => ?_) AllReadyH.nil
              rw [if_pos (by rfl)]
              refine wp_store_mid _ _ _ rfl x 0 (List.toArray _) rfl rfl (there_block E9 rfl) hi11 (all_oneCell_toArray ho11) ?_
              have PZ := (P9).setsOwn (b := x) hxb (valsC a r s) 0
              rw [HVL.out]
              have EZ := sets_whole E9 (cs := valsC a r s) rfl
              refine hK.out _ _ (KS.out _ PZ) (fun hHeld => ?_)
              refine wpAnyH_done (by kernel_rfl) ?_ _
              exact ⟨x, ⟨Lib.hid EZ, Lib.hid PZ⟩, rfl⟩
      · go_simp
        have E11 := heap_alloc_new u1 (.cells #[.string ⟨#[]⟩, .string ⟨#[]⟩, .string ⟨#[]⟩, .string ⟨#[]⟩, .string ⟨#[]⟩, .string ⟨#[]⟩, .string ⟨#[]⟩, .string ⟨#[]⟩, .string ⟨#[]⟩, .string ⟨#[]⟩, .string ⟨#[]⟩] 111)
        have P11 := Gr.alloc P1 (.cells #[.string ⟨#[]⟩, .string ⟨#[]⟩, .string ⟨#[]⟩, .string ⟨#[]⟩, .string ⟨#[]⟩, .string ⟨#[]⟩, .string ⟨#[]⟩, .string ⟨#[]⟩, .string ⟨#[]⟩, .string ⟨#[]⟩, .string ⟨#[]⟩] 111)
        have hxb := Gr.size P1
        obtain ⟨u11, hu⟩ : ∃ u, World.alloc u1 (.cells #[.string ⟨#[]⟩, .string ⟨#[]⟩, .string ⟨#[]⟩, .string ⟨#[]⟩, .string ⟨#[]⟩, .string ⟨#[]⟩, .string ⟨#[]⟩, .string ⟨#[]⟩, .string ⟨#[]⟩, .string ⟨#[]⟩, .string ⟨#[]⟩] 111) = u := ⟨_, rfl⟩
        rw [hu] at E11 P11 ⊢
        obtain ⟨x, hx⟩ : ∃ x, (u1).heap.size = x := ⟨_, rfl⟩
        rw [hx] at E11 hxb ⊢
        clear hHeld
        refine hK.out _ _ (KS.out _ P11) (fun hHeld => ?_)
        clear hK K
        try simp only [Act.put]
        refine wpAnyH_ready (rs := [7]) (by kernel_rfl) (by simp) ?_
        refine AllReadyH.cons (o := { dst := some 51, op := Op.call { callee := Callee.value (Operand.func 49), args := #[Operand.tmp 50], argTypes := #[3] }, type := 9, pos := "canonical.go:140", after := #[⟨6, Ground.data⟩, ⟨4, Ground.chain⟩], guard := none }) rfl (fun K hK => ?_) AllReadyH.nil
        · go_simp
          go_at_call 49
          refine (T7.out _).mono ?_
          rintro e u ⟨rfl, rfl⟩
          try go_wp2_with fail
          clear hHeld
          refine hK.out _ _ (KS.out _ P11) (fun hHeld => ?_)
          clear hK K
          try simp only [Act.put, List.setIfInBounds_toArray, List.set_cons_zero, List.set_cons_succ]
          refine wpAnyH_ready (rs := [14]) (by kernel_rfl) (by simp) ?_
          refine AllReadyH.cons (o := { dst := some 58, op := Op.call { callee := Callee.value (Operand.func 50), args := #[Operand.tmp 57], argTypes := #[39] }, type := 9, pos := "canonical.go:141", after := #[⟨13, Ground.data⟩, ⟨7, Ground.chain⟩], guard := none }) rfl (fun K hK => ?_) AllReadyH.nil
          · go_simp
            go_at_call 50
            refine (T6.out _).mono ?_
            rintro e u13 ⟨rfl, g⟩
            have P13 := Gr.trans P11 g
            have E13 := (g.block (lt_of_heap E11)).trans E11
            try go_wp2_with fail
            clear hHeld
            refine hK.out _ _ (KS.out _ P13) (fun hHeld => ?_)
            clear hK K
            try simp only [Act.put, List.setIfInBounds_toArray, List.set_cons_zero, List.set_cons_succ]
            refine wpAnyH_ready (rs := [22]) (by kernel_rfl) (by simp) ?_
            refine AllReadyH.cons (o := { dst := some 66, op := Op.call { callee := Callee.value (Operand.func 49), args := #[Operand.tmp 65], argTypes := #[3] }, type := 9, pos := "canonical.go:141", after := #[⟨21, Ground.data⟩, ⟨14, Ground.chain⟩], guard := none }) rfl (fun K hK => ?_) AllReadyH.nil
            · go_simp
              go_at_call 49
              refine (T7.out _).mono ?_
              rintro e u ⟨rfl, rfl⟩
              try go_wp2_with fail
              clear hHeld
              refine hK.out _ _ (KS.out _ P13) (fun hHeld => ?_)
              clear hK K
              try simp only [Act.put, List.setIfInBounds_toArray, List.set_cons_zero, List.set_cons_succ]
              refine wpAnyH_take (i := 23) (oi := { dst := some 67, op := Op.build 111 #[(0, Operand.tmp 45), (1, Operand.tmp 48), (2, Operand.tmp 51), (3, Operand.tmp 52), (4, Operand.tmp 54), (5, Operand.tmp 55), (6, Operand.tmp 58), (7, Operand.tmp 60), (8, Operand.tmp 62), (9, Operand.tmp 63), (10, Operand.tmp 66)], type := 111, pos := "canonical.go:139", after := #[⟨1, Ground.data⟩, ⟨4, Ground.data⟩, ⟨7, Ground.data⟩, ⟨8, Ground.data⟩, ⟨10, Ground.data⟩, ⟨11, Ground.data⟩, ⟨14, Ground.data⟩, ⟨16, Ground.data⟩, ⟨18, Ground.data⟩, ⟨19, Ground.data⟩, ⟨22, Ground.data⟩], guard := none }) (v := ?_) rfl (by kernel_rfl) (by kernel_rfl) (by kernel_rfl) (fun _ _ _ h => h) (Or.inl ⟨by rfl, ?_⟩) (by assumption) ?_
              rotate_left
              · intro u hSw; (try dsimp only at hSw); go_simp; all_goals with_reducible rfl
              try simp only [Act.put, List.setIfInBounds_toArray, List.set_cons_zero, List.set_cons_succ]
              refine wpAnyH_ready (rs := [25]) (by kernel_rfl) (by simp) ?_
              refine AllReadyH.cons (o := { dst := none, op := Op.store 111 (Operand.tmp 9) (Operand.tmp 67), type := 0, pos := "canonical.go:139", after := #[⟨24, Ground.data⟩, ⟨23, Ground.data⟩, ⟨22, Ground.chain⟩, ⟨0, Ground.phase⟩, ⟨1, Ground.phase⟩, ⟨2, Ground.phase⟩, ⟨3, Ground.phase⟩, ⟨4, Ground.phase⟩, ⟨5, Ground.phase⟩, ⟨6, Ground.phase⟩, ⟨7, Ground.phase⟩, ⟨8, Ground.phase⟩, ⟨9, Ground.phase⟩, ⟨10, Ground.phase⟩, ⟨11, Ground.phase⟩, ⟨12, Ground.phase⟩, ⟨13, Ground.phase⟩, ⟨14, Ground.phase⟩, ⟨15, Ground.phase⟩, ⟨16, Ground.phase⟩, ⟨17, Ground.phase⟩, ⟨18, Ground.phase⟩, ⟨19, Ground.phase⟩, ⟨20, Ground.phase⟩, ⟨21, Ground.phase⟩, ⟨22, Ground.phase⟩, ⟨23, Ground.phase⟩, ⟨24, Ground.phase⟩], guard := none }) rfl (fun K hK => ?_) AllReadyH.nil
              rw [if_pos (by rfl)]
              refine wp_store_mid _ _ _ rfl x 0 (List.toArray _) rfl rfl (there_block E13 rfl) hi11 (all_oneCell_toArray ho11) ?_
              have PZ := (P13).setsOwn (b := x) hxb (valsC a r s) 0
              rw [HVL.out]
              have EZ := sets_whole E13 (cs := valsC a r s) rfl
              refine hK.out _ _ (KS.out _ PZ) (fun hHeld => ?_)
              refine wpAnyH_done (by kernel_rfl) ?_ _
              exact ⟨x, ⟨Lib.hid EZ, Lib.hid PZ⟩, rfl⟩
    · go_simp
      have E15 := heap_alloc_new v0 (.cells #[.string ⟨#[]⟩, .string ⟨#[]⟩, .string ⟨#[]⟩, .string ⟨#[]⟩, .string ⟨#[]⟩, .string ⟨#[]⟩, .string ⟨#[]⟩, .string ⟨#[]⟩, .string ⟨#[]⟩, .string ⟨#[]⟩, .string ⟨#[]⟩] 111)
      have P15 := Gr.alloc P0 (.cells #[.string ⟨#[]⟩, .string ⟨#[]⟩, .string ⟨#[]⟩, .string ⟨#[]⟩, .string ⟨#[]⟩, .string ⟨#[]⟩, .string ⟨#[]⟩, .string ⟨#[]⟩, .string ⟨#[]⟩, .string ⟨#[]⟩, .string ⟨#[]⟩] 111)
      have hxb := Gr.size P0
      obtain ⟨u15, hu⟩ : ∃ u, World.alloc v0 (.cells #[.string ⟨#[]⟩, .string ⟨#[]⟩, .string ⟨#[]⟩, .string ⟨#[]⟩, .string ⟨#[]⟩, .string ⟨#[]⟩, .string ⟨#[]⟩, .string ⟨#[]⟩, .string ⟨#[]⟩, .string ⟨#[]⟩, .string ⟨#[]⟩] 111) = u := ⟨_, rfl⟩
      rw [hu] at E15 P15 ⊢
      obtain ⟨x, hx⟩ : ∃ x, (v0).heap.size = x := ⟨_, rfl⟩
      rw [hx] at E15 hxb ⊢
      clear hHeld
      refine hK.out _ _ (KS.out _ P15) (fun hHeld => ?_)
      clear hK K
      try simp only [Act.put]
      refine wpAnyH_ready (rs := [4]) (by kernel_rfl) (by simp) ?_
      refine AllReadyH.cons (o := { dst := some 48, op := Op.call { callee := Callee.value (Operand.func 48), args := #[Operand.tmp 47], argTypes := #[35] }, type := 9, pos := "canonical.go:140", after := #[⟨3, Ground.data⟩], guard := none }) rfl (fun K hK => ?_) AllReadyH.nil
      · go_simp
        go_at_call 48
        refine (T3.out _).mono ?_
        rintro e u16 ⟨rfl, g⟩
        have P16 := Gr.trans P15 g
        have E16 := (g.block (lt_of_heap E15)).trans E15
        try go_wp2_with fail
        clear hHeld
        refine hK.out _ _ (KS.out _ P16) (fun hHeld => ?_)
        clear hK K
        try simp only [Act.put, List.setIfInBounds_toArray, List.set_cons_zero, List.set_cons_succ]
        refine wpAnyH_ready (rs := [7]) (by kernel_rfl) (by simp) ?_
        refine AllReadyH.cons (o := { dst := some 51, op := Op.call { callee := Callee.value (Operand.func 49), args := #[Operand.tmp 50], argTypes := #[3] }, type := 9, pos := "canonical.go:140", after := #[⟨6, Ground.data⟩, ⟨4, Ground.chain⟩], guard := none }) rfl (fun K hK => ?_) AllReadyH.nil
        · go_simp
          go_at_call 49
          refine (T7.out _).mono ?_
          rintro e u ⟨rfl, rfl⟩
          try go_wp2_with fail
          clear hHeld
          refine hK.out _ _ (KS.out _ P16) (fun hHeld => ?_)
          clear hK K
          try simp only [Act.put, List.setIfInBounds_toArray, List.set_cons_zero, List.set_cons_succ]
          refine wpAnyH_ready (rs := [14]) (by kernel_rfl) (by simp) ?_
          refine AllReadyH.cons (o := { dst := some 58, op := Op.call { callee := Callee.value (Operand.func 50), args := #[Operand.tmp 57], argTypes := #[39] }, type := 9, pos := "canonical.go:141", after := #[⟨13, Ground.data⟩, ⟨7, Ground.chain⟩], guard := none }) rfl (fun K hK => ?_) AllReadyH.nil
          · go_simp
            go_at_call 50
            refine (T6.out _).mono ?_
            rintro e u18 ⟨rfl, g⟩
            have P18 := Gr.trans P16 g
            have E18 := (g.block (lt_of_heap E16)).trans E16
            try go_wp2_with fail
            clear hHeld
            refine hK.out _ _ (KS.out _ P18) (fun hHeld => ?_)
            clear hK K
            try simp only [Act.put, List.setIfInBounds_toArray, List.set_cons_zero, List.set_cons_succ]
            refine wpAnyH_ready (rs := [22]) (by kernel_rfl) (by simp) ?_
            refine AllReadyH.cons (o := { dst := some 66, op := Op.call { callee := Callee.value (Operand.func 49), args := #[Operand.tmp 65], argTypes := #[3] }, type := 9, pos := "canonical.go:141", after := #[⟨21, Ground.data⟩, ⟨14, Ground.chain⟩], guard := none }) rfl (fun K hK => ?_) AllReadyH.nil
            · go_simp
              go_at_call 49
              refine (T7.out _).mono ?_
              rintro e u ⟨rfl, rfl⟩
              try go_wp2_with fail
              clear hHeld
              refine hK.out _ _ (KS.out _ P18) (fun hHeld => ?_)
              clear hK K
              try simp only [Act.put, List.setIfInBounds_toArray, List.set_cons_zero, List.set_cons_succ]
              refine wpAnyH_take (i := 23) (oi := { dst := some 67, op := Op.build 111 #[(0, Operand.tmp 45), (1, Operand.tmp 48), (2, Operand.tmp 51), (3, Operand.tmp 52), (4, Operand.tmp 54), (5, Operand.tmp 55), (6, Operand.tmp 58), (7, Operand.tmp 60), (8, Operand.tmp 62), (9, Operand.tmp 63), (10, Operand.tmp 66)], type := 111, pos := "canonical.go:139", after := #[⟨1, Ground.data⟩, ⟨4, Ground.data⟩, ⟨7, Ground.data⟩, ⟨8, Ground.data⟩, ⟨10, Ground.data⟩, ⟨11, Ground.data⟩, ⟨14, Ground.data⟩, ⟨16, Ground.data⟩, ⟨18, Ground.data⟩, ⟨19, Ground.data⟩, ⟨22, Ground.data⟩], guard := none }) (v := ?_) rfl (by kernel_rfl) (by kernel_rfl) (by kernel_rfl) (fun _ _ _ h => h) (Or.inl ⟨by rfl, ?_⟩) (by assumption) ?_
              rotate_left
              · intro u hSw; (try dsimp only at hSw); go_simp; all_goals with_reducible rfl
              try simp only [Act.put, List.setIfInBounds_toArray, List.set_cons_zero, List.set_cons_succ]
              refine wpAnyH_ready (rs := [25]) (by kernel_rfl) (by simp) ?_
              refine AllReadyH.cons (o := { dst := none, op := Op.store 111 (Operand.tmp 9) (Operand.tmp 67), type := 0, pos := "canonical.go:139", after := #[⟨24, Ground.data⟩, ⟨23, Ground.data⟩, ⟨22, Ground.chain⟩, ⟨0, Ground.phase⟩, ⟨1, Ground.phase⟩, ⟨2, Ground.phase⟩, ⟨3, Ground.phase⟩, ⟨4, Ground.phase⟩, ⟨5, Ground.phase⟩, ⟨6, Ground.phase⟩, ⟨7, Ground.phase⟩, ⟨8, Ground.phase⟩, ⟨9, Ground.phase⟩, ⟨10, Ground.phase⟩, ⟨11, Ground.phase⟩, ⟨12, Ground.phase⟩, ⟨13, Ground.phase⟩, ⟨14, Ground.phase⟩, ⟨15, Ground.phase⟩, ⟨16, Ground.phase⟩, ⟨17, Ground.phase⟩, ⟨18, Ground.phase⟩, ⟨19, Ground.phase⟩, ⟨20, Ground.phase⟩, ⟨21, Ground.phase⟩, ⟨22, Ground.phase⟩, ⟨23, Ground.phase⟩, ⟨24, Ground.phase⟩], guard := none }) rfl (fun K hK => ?_) AllReadyH.nil
              rw [if_pos (by rfl)]
              refine wp_store_mid _ _ _ rfl x 0 (List.toArray _) rfl rfl (there_block E18 rfl) hi11 (all_oneCell_toArray ho11) ?_
              have PZ := (P18).setsOwn (b := x) hxb (valsC a r s) 0
              rw [HVL.out]
              have EZ := sets_whole E18 (cs := valsC a r s) rfl
              refine hK.out _ _ (KS.out _ PZ) (fun hHeld => ?_)
              refine wpAnyH_done (by kernel_rfl) ?_ _
              exact ⟨x, ⟨Lib.hid EZ, Lib.hid PZ⟩, rfl⟩
  intro x W hR
  obtain ⟨hb, hgr⟩ := hR
  obtain ⟨m, hm1⟩ : ∃ m, W.heap.size = m := ⟨_, rfl⟩
  obtain ⟨V0, hV0⟩ : ∃ V, W.alloc (.cells #[.pointer none, .slice none 0 0] 114) = V := ⟨_, rfl⟩
  obtain ⟨wd, hwd⟩ : ∃ wd : Nat → ByteArray, (fun i => wordsK.getD i eS) = wd := ⟨_, rfl⟩
  have B0 : Hid (BldAt V0 m m []) := by show BldAt _ _ _ _; rw [← hV0]; exact BldAt.new W m hm1.symm
  have GV : Hid (Gr W V0) := by show Gr _ _; rw [← hV0]; exact (Gr.refl W).alloc _
  have hxm : x < m := by rw [← hm1]; exact lt_of_heap hb.out
  have hnm : n < m := by rw [← hm1]; exact Nat.lt_of_lt_of_le hn8.out hgr.out.size
  have HF : Hid (∀ u, Below m V0 u → Gr W u) := fun u hu => by
    have h1 : Below m W V0 := by rw [← hm1]; exact GV.out
    show Below W.heap.size W u; rw [hm1]; exact Below.trans h1 hu
  have HX : Hid (∀ u, Below m V0 u → hasRow u ⟨x, 0, none⟩ 11 = true ∧ rowAt u ⟨x, 0, none⟩ 11 = [.string ee, .string au, .string zz, .string aa, .string s, .string ee, .string ee, .string ee, .string ee, .string ks, .string zz]) := fun u hu => by
    have h := ((HF.out u hu).block (lt_of_heap hb.out)).trans hb.out
    rw [HVL.out]
    exact ⟨hasRow_block h 0 11 (Nat.le_of_eq rfl), rowAt_block h 0 11 (Nat.le_of_eq rfl)⟩
  have HWW : Hid (∀ u, Below m V0 u → ∀ i, i < 11 → u.cell? ⟨2, i, none⟩ = some (.string (wd i))) := fun u hu i hi => by
    rw [← hwd]
    refine (HWd.out.gr (HG8.out.trans (hgr.out.trans (HF.out u hu)))) i _ ?_
    show wordsK[i]? = some (wordsK.getD i eS)
    rw [List.getD_eq_getElem?_getD, List.getElem?_eq_getElem (by exact hi)]; rfl
  have HWS : Hid (∀ i, i < 11 → (wd i).size ≤ 12) := fun i hi => by
    rw [← hwd]
    have : ∀ i, i < 11 → (wordsK.getD i eS).size ≤ 12 := by decide
    exact this i hi
  have HWr : Hid (∀ u l i v, i < 11 → v.size ≤ 300 → l.length ≤ 320 * i → Below m V0 u → BldAt u m m l → Calls Tryz.prog 51 #[.pointer (some ⟨m, 0, none⟩), .string (wd i ++ ⟨#[32]⟩ ++ v ++ ⟨#[10]⟩)] u fun e w' => ∃ z, e = .returned (.tuple #[.int .i64 z, .nilIface]) ∧ Hid (BldAt w' m m (l ++ lineL (wd i, v))) ∧ Hid (Below m V0 w') ∧ Hid ((l ++ lineL (wd i, v)).length ≤ 320 * (i + 1))) := fun u l i v hi hv hl hu hB => by
    have e : bl (wd i ++ ⟨#[32]⟩ ++ v ++ ⟨#[10]⟩) = lineL (wd i, v) := by rw [bl_app3, bl_app3, bl_app3]; rfl
    have hsz : (wd i ++ ⟨#[32]⟩ ++ v ++ ⟨#[10]⟩ : ByteArray).size ≤ 320 := by
      have := HWS.out i hi
      simp only [ByteArray.size_append]
      have h1 : (⟨#[32]⟩ : ByteArray).size = 1 := rfl
      have h2 : (⟨#[10]⟩ : ByteArray).size = 1 := rfl
      omega
    refine (writeC9 m m l _ u hB (by omega) (by have := (HF.out u hu).size; omega)).mono ?_
    rintro e' w' ⟨h1, h2, h3⟩
    rw [e] at h2
    exact ⟨_, h1, Lib.hid h2, Lib.hid (Below.trans hu h3), Lib.hid (by rw [List.length_append, ← e, bl_length]; omega)⟩
  have HEd : Hid (∀ u l, l.length ≤ 320 * 11 → Below m V0 u → BldAt u m m l → Calls Tryz.prog 51 #[.pointer (some ⟨m, 0, none⟩), .string (⟨#[10]⟩ ++ ee)] u fun e w' => ∃ z, e = .returned (.tuple #[.int .i64 z, .nilIface]) ∧ Hid (BldAt w' m m (l ++ [10])) ∧ Hid (Below m V0 w')) := fun u l hl hu hB => by
    have e : bl (⟨#[10]⟩ ++ ee) = [10] := by rw [bl_app3, ← hee]; rfl
    refine (writeC9 m m l _ u hB (by
      rw [ByteArray.size_append, ← hee]
      have h1 : (⟨#[10]⟩ : ByteArray).size = 1 := rfl
      have h2 : eS.size = 0 := rfl
      omega) (by have := (HF.out u hu).size; omega)).mono ?_
    rintro e' w' ⟨h1, h2, h3⟩
    rw [e] at h2
    exact ⟨_, h1, Lib.hid h2, Lib.hid (Below.trans hu h3)⟩
  have HSt : Hid (∀ u l, Below m V0 u → BldAt u m m l → Calls Tryz.prog 52 #[.pointer (some ⟨m, 0, none⟩)] u fun e w' => e = .returned (.string (bs l)) ∧ Below m V0 w') := fun u l hu hB => by
    refine (bldString m m l u hB (by have := (HF.out u hu).size; omega)).mono ?_
    rintro e' w' ⟨h1, h2⟩
    exact ⟨h1, Below.trans hu h2⟩
  have hze : ee.size = 0 := by rw [← hee]; rfl
  have hzu : au.size = 32 := by rw [← hau, ← bl_length]; exact autT_len a
  have hzz' : zz.size = 1 := by rw [← hzz]; rfl
  have hza : aa.size = 1 := by rw [← haa]; rfl
  have hzk : ks.size = 26 := by
    rw [← hks, ← bl_length]; unfold keyS; rw [bl_app3, bl_app3]
    show (_ ++ pubT 1 r).length = 26
    rw [List.length_append, ht]; rfl
  have hsA : ¬ 9223372036854775807 < 8 + s.size := by omega
  have hsB : ¬ 9223372036854775807 < 8 + s.size + 1 := by omega
  have HWD : Hid (∀ i, i < 11 → (wd i).size = [4, 6, 4, 6, 7, 10, 10, 7, 12, 3, 4].getD i 0) := fun i hi => by
    rw [← hwd]
    have : ∀ i, i < 11 → (wordsK.getD i eS).size = [4, 6, 4, 6, 7, 10, 10, 7, 12, 3, 4].getD i 0 := by decide
    exact this i hi
  have b0 : Hid (Below m V0 V0) := Below.refl _ _
  have l0 := B0
  have n0 : Hid (([] : List UInt8).length ≤ 320 * 0) := Lib.hid (Nat.zero_le _)
  obtain ⟨x0, x1⟩ := HX.out V0 b0.out
  clear B0
  clear hu111 hi111 hi11 hl11 ho11
  have a11 := agg11
  have c11 := k11
  go_wp2_with fail
  try simp only [hm1, hV0]
  replace hV0 := Lib.hid hV0
  go_wp2_with fail
  refine wp_loop_rounds 12 ?_
  rw [rounds_succ]
  have fw0 := HWW.out V0 b0.out 0 (by decide)
  have hwz0 : (wd 0).size = 4 := HWD.out 0 (by decide)
  have hix0 := ix11_0 ee au zz aa s ee ee ee ee ks zz
  go_wp2_with (go_at_call 51; refine (HWr.out V0 _ 0 ee (by decide) sz0.out n0.out b0.out l0.out).mono ?_; rintro e u1 ⟨z0, rfl, l1, b1, n1⟩)
  clear fw0 hix0 hwz0
  rw [rounds_succ]
  have fw1 := HWW.out u1 b1.out 1 (by decide)
  have hwz1 : (wd 1).size = 6 := HWD.out 1 (by decide)
  have hix1 := ix11_1 ee au zz aa s ee ee ee ee ks zz
  go_wp2_with (go_at_call 51; refine (HWr.out u1 _ 1 au (by decide) sz1.out n1.out b1.out l1.out).mono ?_; rintro e u2 ⟨z1, rfl, l2, b2, n2⟩)
  clear fw1 hix1 hwz1
  rw [rounds_succ]
  have fw2 := HWW.out u2 b2.out 2 (by decide)
  have hwz2 : (wd 2).size = 4 := HWD.out 2 (by decide)
  have hix2 := ix11_2 ee au zz aa s ee ee ee ee ks zz
  go_wp2_with (go_at_call 51; refine (HWr.out u2 _ 2 zz (by decide) sz2.out n2.out b2.out l2.out).mono ?_; rintro e u3 ⟨z2, rfl, l3, b3, n3⟩)
  clear fw2 hix2 hwz2
  rw [rounds_succ]
  have fw3 := HWW.out u3 b3.out 3 (by decide)
  have hwz3 : (wd 3).size = 6 := HWD.out 3 (by decide)
  have hix3 := ix11_3 ee au zz aa s ee ee ee ee ks zz
  go_wp2_with (go_at_call 51; refine (HWr.out u3 _ 3 aa (by decide) sz3.out n3.out b3.out l3.out).mono ?_; rintro e u4 ⟨z3, rfl, l4, b4, n4⟩)
  clear fw3 hix3 hwz3
  rw [rounds_succ]
  have fw4 := HWW.out u4 b4.out 4 (by decide)
  have hwz4 : (wd 4).size = 7 := HWD.out 4 (by decide)
  have hix4 := ix11_4 ee au zz aa s ee ee ee ee ks zz
  go_wp2_with (go_at_call 51; refine (HWr.out u4 _ 4 s (by decide) sz4.out n4.out b4.out l4.out).mono ?_; rintro e u5 ⟨z4, rfl, l5, b5, n5⟩)
  clear fw4 hix4 hwz4
  rw [rounds_succ]
  have fw5 := HWW.out u5 b5.out 5 (by decide)
  have hwz5 : (wd 5).size = 10 := HWD.out 5 (by decide)
  have hix5 := ix11_5 ee au zz aa s ee ee ee ee ks zz
  go_wp2_with (go_at_call 51; refine (HWr.out u5 _ 5 ee (by decide) sz0.out n5.out b5.out l5.out).mono ?_; rintro e u6 ⟨z5, rfl, l6, b6, n6⟩)
  clear fw5 hix5 hwz5
  rw [rounds_succ]
  have fw6 := HWW.out u6 b6.out 6 (by decide)
  have hwz6 : (wd 6).size = 10 := HWD.out 6 (by decide)
  have hix6 := ix11_6 ee au zz aa s ee ee ee ee ks zz
  go_wp2_with (go_at_call 51; refine (HWr.out u6 _ 6 ee (by decide) sz0.out n6.out b6.out l6.out).mono ?_; rintro e u7 ⟨z6, rfl, l7, b7, n7⟩)
  clear fw6 hix6 hwz6
  rw [rounds_succ]
  have fw7 := HWW.out u7 b7.out 7 (by decide)
  have hwz7 : (wd 7).size = 7 := HWD.out 7 (by decide)
  have hix7 := ix11_7 ee au zz aa s ee ee ee ee ks zz
  go_wp2_with (go_at_call 51; refine (HWr.out u7 _ 7 ee (by decide) sz0.out n7.out b7.out l7.out).mono ?_; rintro e u8 ⟨z7, rfl, l8, b8, n8⟩)
  clear fw7 hix7 hwz7
  rw [rounds_succ]
  have fw8 := HWW.out u8 b8.out 8 (by decide)
  have hwz8 : (wd 8).size = 12 := HWD.out 8 (by decide)
  have hix8 := ix11_8 ee au zz aa s ee ee ee ee ks zz
  go_wp2_with (go_at_call 51; refine (HWr.out u8 _ 8 ee (by decide) sz0.out n8.out b8.out l8.out).mono ?_; rintro e u9 ⟨z8, rfl, l9, b9, n9⟩)
  clear fw8 hix8 hwz8
  rw [rounds_succ]
  have fw9 := HWW.out u9 b9.out 9 (by decide)
  have hwz9 : (wd 9).size = 3 := HWD.out 9 (by decide)
  have hix9 := ix11_9 ee au zz aa s ee ee ee ee ks zz
  go_wp2_with (go_at_call 51; refine (HWr.out u9 _ 9 ks (by decide) sz5.out n9.out b9.out l9.out).mono ?_; rintro e u10 ⟨z9, rfl, l10, b10, n10⟩)
  clear fw9 hix9 hwz9
  rw [rounds_succ]
  have fw10 := HWW.out u10 b10.out 10 (by decide)
  have hwz10 : (wd 10).size = 4 := HWD.out 10 (by decide)
  have hix10 := ix11_10 ee au zz aa s ee ee ee ee ks zz
  go_wp2_with (go_at_call 51; refine (HWr.out u10 _ 10 zz (by decide) sz2.out n10.out b10.out l10.out).mono ?_; rintro e u11 ⟨z10, rfl, l11, b11, n11⟩)
  clear fw10 hix10 hwz10
  rw [rounds_succ]
  have fb := KB.out u11 (hgr.out.trans (HF.out u11 b11.out))
  go_wp2_with (first
    | (go_at_call 51; refine (HEd.out u11 _ n11.out b11.out l11.out).mono ?_; rintro e u12 ⟨z11, rfl, l12, b12⟩)
    | (go_at_call 52; refine (HSt.out u12 _ b12.out l12.out).mono ?_; rintro e u13 ⟨rfl, b13⟩))
  go_ret2
  have HL : [] ++ lineL (wd 0, ee) ++ lineL (wd 1, au) ++ lineL (wd 2, zz) ++ lineL (wd 3, aa) ++ lineL (wd 4, s) ++ lineL (wd 5, ee) ++ lineL (wd 6, ee) ++ lineL (wd 7, ee) ++ lineL (wd 8, ee) ++ lineL (wd 9, ks) ++ lineL (wd 10, zz) ++ [10] = formL a r s := by
    rw [← hwd, ← hee, ← hau, ← hzz, ← haa, ← hks]
    simp [formL, wordsK, valsK, List.append_assoc]
  exact ⟨by rw [← HL]; simp only [List.append_assoc, List.nil_append]; rfl, HG8.out.trans (hgr.out.trans (HF.out u13 b13))⟩
end Go.Proofs.YteknmbijodbfoaaGreatDoor

namespace Go.Proofs.YteknmbijodbfoaaGreatDoor
open Go.RowKit

/-- A digest of 32 bytes as an identity. -/
def idV (l : List UInt8) : Vector UInt8 32 := ⟨(shaL l).toArray, by rw [List.size_toArray, shaL_len]⟩
theorem idV_bC (l : List UInt8) : bC (idV l) = uL (shaL l) := by
  rw [← uL_bC]; rfl
theorem sizeId (x : Vector UInt8 32) : (Tryz.prog.info? 39).map (·.size) = some (bC x).toArray.size := by
  rw [List.size_toArray, bC32_len]; kernel_rfl
set_option maxRecDepth 100000 in
set_option maxHeartbeats 2000000 in
theorem idC (a r : V16) (s : ByteArray) (g c : Nat) (h1 : prB (bl s) = true) (h2 : sqB s = true) (h3 : s.size ≤ 200) (h1c : 1 ≤ c) (ht : (pubT 1 r).length = 24) (hfl : (formL a r s).length ≤ 100000) (w : World) (hE : Env w) (hA : Alph w) (hW : WordsAt w) (hK : Kt w) (hm : 5 < w.heap.size) (hg : g < w.heap.size) (hgc : w.cell? ⟨g, 0, none⟩ = some (.string aS)) :
    Calls Tryz.prog 17 #[.agg (cttC (ctK a r s g c)).toArray] w fun e w' => e = .returned (.tuple #[.agg (bC (idV (formL a r s))).toArray, .int .i64 0]) ∧ Gr w w' := by
  obtain ⟨n, hn⟩ : ∃ n, w.heap.size = n := ⟨_, rfl⟩
  have HN := Lib.hid hn
  obtain ⟨k, hk⟩ : ∃ k, ctK a r s g c = k := ⟨_, rfl⟩
  obtain ⟨U0, hU⟩ : ∃ U0, (w.alloc (.cells (cttC k).toArray 41)).alloc (.cells (bC zId).toArray 39) = U0 := ⟨_, rfl⟩
  have H0 : Hid (U0.heap[n]? = some (.cells (cttC k).toArray 41 (0, 0))) := by
    show _ = _; rw [← hU]
    exact (((Gr.refl _).alloc _).block (by simp; omega)).trans (heap_new _ _ _ (by omega))
  have H1 : Hid (U0.heap[n + 1]? = some (.cells (bC zId).toArray 39 (0, 0))) := by
    show _ = _; rw [← hU]
    exact heap_new _ _ _ (by simp; omega)
  have HG : Hid (Gr w U0) := by show Gr _ _; rw [← hU]; exact ((Gr.refl w).alloc _).alloc _
  have HF : Hid (Calls Tryz.prog 29 #[.agg (cttC k).toArray] U0 fun e w' => e = .returned (.tuple #[.string (bs (formL a r s)), .int .i64 0]) ∧ Gr U0 w') := by
    rw [← hk]
    obtain ⟨m, hmm⟩ := hE
    exact formK a r s g c h1 h2 h3 h1c ht U0 ⟨m, (HG.out.cell (p := ⟨5, 0, none⟩) hm).trans hmm⟩ (hA.gr HG.out) (hW.gr HG.out) (Nat.lt_of_lt_of_le hm HG.out.size) (Nat.lt_of_lt_of_le hg HG.out.size) ((HG.out.cell (p := ⟨g, 0, none⟩) hg).trans hgc)
  have b75 : oneB (cttC k) = true := by rw [← hk]; exact ctK_one a r s g c
  have l75 := cttC_length k
  have HK := Lib.hid (hK.gr HG.out)
  have f := ct_facts H0.out
  have f1 := f.w0
  have f2 := f.w1
  have f3 := f.z
  obtain ⟨t, ht'⟩ : ∃ t, bs (formL a r s) = t := ⟨_, rfl⟩
  have htb : bl t = formL a r s := by rw [← ht']; rfl
  have htz : t.size = (formL a r s).length := by rw [← bl_length, htb]
  rw [ht'] at HF
  obtain ⟨y, hy⟩ : ∃ y, idV (formL a r s) = y := ⟨_, rfl⟩
  have hyb : bC y = uL (shaL (formL a r s)) := by rw [← hy, idV_bC]
  have HS : Hid (∀ W v, Kt W → BytG W v (formL a r s) → Calls Tryz.prog 28 #[v] W fun e w' => e = .returned (.agg (bC y).toArray) ∧ Gr W w') := fun W v h hv => by
    rw [hyb]; exact sumC v _ W h (by omega) hv
  rw [hy, hk]
  have b3 := bC32_len y
  have b4 := bC32_one y
  replace hU := Lib.hid hU
  clear hE hA hW hK hm hg hgc f hk hyb hy ht' ht
  go_enter Tryz.func17, Tryz.ntmps17
  go_wp2_with fail
  try simp only [hn]
  change Calls _ _ _ ((w.alloc (.cells (cttC k).toArray 41)).alloc (.cells (bC zId).toArray 39)) _
  rw [hU.out]
  refine HF.out.mono ?_
  rintro e w1 ⟨rfl, g1⟩
  have G1 := Lib.hid g1
  clear g1
  obtain ⟨cp, W, hcv, gW, hBy, hle⟩ := conv_bytesU t _ htz w1
  have GW := Lib.hid gW
  have HBy : Hid (BytG W (.slice (some ⟨w1.heap.size, 0, none⟩) (formL a r s).length cp) (formL a r s)) := ⟨_, cp, rfl, hle, .inr ⟨_, 0, rfl, htb ▸ hBy⟩⟩
  clear gW hBy
  go_wp2_with (go_at_call 28; refine (HS.out W _ (HK.out.gr (G1.out.trans GW.out)) HBy.out).mono ?_; rintro e w2 ⟨rfl, g2⟩; have H2 := Lib.hid ((g2.block (lt_of_heap ((GW.out.block (lt_of_heap ((G1.out.block (lt_of_heap H1.out)).trans H1.out))).trans ((G1.out.block (lt_of_heap H1.out)).trans H1.out)))).trans ((GW.out.block (lt_of_heap ((G1.out.block (lt_of_heap H1.out)).trans H1.out))).trans ((G1.out.block (lt_of_heap H1.out)).trans H1.out))); have q3 := hasRow_block H2.out 0 32 (by simp [bC32_len]); have q4 := freeRow_block H2.out 0 32; have q5 := lt_of_heap H2.out)
  have HE : Hid ((w2.setCells (n + 1) 0 (bC y)).heap[n + 1]? = some (.cells (bC y).toArray 39 (0, 0))) := sets_whole H2.out (by simp [bC32_len])
  have HG7 := Lib.hid ((HG.out.trans (G1.out.trans (GW.out.trans g2))).setsOwn (b := n + 1) (by have := HN.out; omega) (bC y) 0)
  refine bodyPost_ret (results_cellT rfl _ _ (n + 1) _ _ _ _ rfl HE.out Tryz.underlying39 rfl (sizeId _)) rfl ?_
  exact ⟨rfl, HG7.out⟩
set_option maxRecDepth 100000 in
set_option maxHeartbeats 2000000 in
theorem idDigestC (l : List UInt8) (w : World) : Calls Tryz.prog 19 #[.agg (bC (idV l)).toArray] w fun e w' => e = .returned (.agg (bC (half l)).toArray) ∧ Gr w w' := by
  rw [idV_bC]
  obtain ⟨n, hn⟩ : ∃ n, w.heap.size = n := ⟨_, rfl⟩
  have HN := Lib.hid hn
  have f3 : (uL (shaL l)).length = 32 := by rw [uL_len, shaL_len]
  have f4 := uL_one (shaL l)
  have HB2 : Hid (((w.alloc (.cells (uL (shaL l)).toArray 39)).alloc (.cells (bC zAut).toArray 29)).heap[n]? = some (.cells (uL (shaL l)).toArray 39 (0, 0))) := (((Gr.refl _).alloc _).block (by simp; omega)).trans (heap_new _ _ _ hn.symm)
  have HZ2 : Hid (((w.alloc (.cells (uL (shaL l)).toArray 39)).alloc (.cells (bC zAut).toArray 29)).heap[n + 1]? = some (.cells (bC zAut).toArray 29 (0, 0))) := heap_new _ _ _ (by simp; omega)
  have har : ∀ w, (Instr.arrayAt 29 (.slice (some ⟨n, 0, none⟩) 16 32)).run Tryz.prog w = .ok (.pointer (some ⟨n, 0, none⟩)) w := fun w => run_arrayAt (w := w) 29 5 16 _ 16 32 Tryz.underlying29 (Nat.le_refl _)
  have r2 := hasRow_block HB2.out 0 16 (by simp [uL_len, shaL_len])
  have q2 := (rowAt_block HB2.out 0 16 (by simp [uL_len, shaL_len])).trans (half_row l)
  have z0 := hasRow_block HZ2.out 0 16 (by simp [bC16_len])
  have z1 := freeRow_block HZ2.out 0 16
  have z2 := lt_of_heap HZ2.out
  have b1 := bC16_len (half l)
  have b2 := bC16_one (half l)
  go_enter Tryz.func19, Tryz.ntmps19
  go_wp2_with fail
  have HE : Hid (((w.alloc (.cells (uL (shaL l)).toArray 39)).alloc (.cells (bC (half l)).toArray 29)).heap[n + 1]? = some (.cells (bC (half l)).toArray 29 (0, 0))) := heap_new _ _ _ (by simp; omega)
  have HG7 : Hid (Gr w ((w.alloc (.cells (uL (shaL l)).toArray 39)).alloc (.cells (bC (half l)).toArray 29))) := ((Gr.refl w).alloc _).alloc _
  refine bodyPost_ret (results_cell_row rfl _ _ (n + 1) _ _ _ _ rfl HE.out Tryz.underlying29 rfl (sizeV16 _)) rfl ?_
  exact ⟨rfl, HG7.out⟩
end Go.Proofs.YteknmbijodbfoaaGreatDoor

namespace Go.Proofs.YteknmbijodbfoaaGreatDoor
open Go.RowKit

/-- What the program's tables hold. -/
structure Bs (w : World) : Prop where
  e : Env w
  a : Alph w
  wd : WordsAt w
  k : Kt w
  m : 5 < w.heap.size
theorem Bs.gr {w w' : World} (h : Bs w) (hg : Gr w w') : Bs w' := by
  obtain ⟨m, hmm⟩ := h.e
  exact ⟨⟨m, (hg.cell (p := ⟨5, 0, none⟩) h.m).trans hmm⟩, h.a.gr hg, h.wd.gr hg, h.k.gr hg, Nat.lt_of_lt_of_le h.m hg.size⟩
/-- The groups' list: one group, "a". -/
structure GsAt (w : World) (g : Nat) : Prop where
  lt : g < w.heap.size
  c : w.cell? ⟨g, 0, none⟩ = some (.string aS)
theorem GsAt.gr {w w' : World} {g : Nat} (h : GsAt w g) (hg : Gr w w') : GsAt w' g := ⟨Nat.lt_of_lt_of_le h.lt hg.size, (hg.cell (p := ⟨g, 0, none⟩) h.lt).trans h.c⟩
/-- A content like the example's. -/
structure Ok (a r : V16) (s : ByteArray) (c : Nat) : Prop where
  p : prB (bl s) = true
  q : sqB s = true
  z : s.size ≤ 200
  c : 1 ≤ c
  t : (pubT 1 r).length = 24
  f : (formL a r s).length ≤ 100000
theorem idB {a r : V16} {s : ByteArray} {g c : Nat} (h : Ok a r s c) {w : World} (hb : Bs w) (hg : GsAt w g) : Calls Tryz.prog 17 #[.agg (cttC (ctK a r s g c)).toArray] w fun e w' => e = .returned (.tuple #[.agg (bC (idV (formL a r s))).toArray, .int .i64 0]) ∧ Gr w w' :=
  idC a r s g c h.p h.q h.z h.c h.t h.f w hb.e hb.a hb.wd hb.k hb.m hg.lt hg.c
set_option maxRecDepth 100000 in
set_option maxHeartbeats 4000000 in
theorem canSignC (seed : Vector UInt8 32) (a : V16) (s : ByteArray) (g c : Nat) (hok : Ok a (rootS seed) s c) (w : World) (hB : Bs w) (hGs : GsAt w g) :
    Calls Tryz.prog 8 #[.agg (cttC (ctK a (rootS seed) s g c)).toArray, .agg (secC seed 1).toArray] w fun e w' => ∃ pv, e = .returned (.tuple #[.agg (sgC 0 (sigV seed 0 (half (formL a (rootS seed) s))) pv).toArray, .int .i64 0]) ∧ OwnV 29 w' w.heap.size pv [lfV seed 1] ∧ Gr w w' := by
  obtain ⟨n, hn⟩ : ∃ n, w.heap.size = n := ⟨_, rfl⟩
  have HN := Lib.hid hn
  obtain ⟨k, hk⟩ : ∃ k, ctK a (rootS seed) s g c = k := ⟨_, rfl⟩
  obtain ⟨U0, hU⟩ : ∃ U0, ((w.alloc (.cells (cttC k).toArray 41)).alloc (.cells (secC seed 1).toArray 28)).alloc (.cells (sgC 0 (fun _ => zAut) nilS).toArray 45) = U0 := ⟨_, rfl⟩
  have H0 : Hid (U0.heap[n]? = some (.cells (cttC k).toArray 41 (0, 0))) := by
    show _ = _; rw [← hU]
    exact ((((Gr.refl _).alloc _).alloc _).block (by simp; omega)).trans (heap_new _ _ _ (by omega))
  have H1 : Hid (SecAt U0 (n + 1) seed 1) := ⟨by
    rw [← hU]
    exact (((Gr.refl _).alloc _).block (by simp; omega)).trans (heap_new _ _ _ (by simp; omega))⟩
  have H2 : Hid (U0.heap[n + 1 + 1]? = some (.cells (sgC 0 (fun _ => zAut) nilS).toArray 45 (0, 0))) := by
    show _ = _; rw [← hU]
    exact heap_new _ _ _ (by simp; omega)
  have HG : Hid (Gr w U0) := by show Gr _ _; rw [← hU]; exact (((Gr.refl w).alloc _).alloc _).alloc _
  obtain ⟨F, hF⟩ : ∃ F, formL a (rootS seed) s = F := ⟨_, rfl⟩
  have HID : Hid (∀ W, Gr U0 W → Calls Tryz.prog 17 #[.agg (cttC k).toArray] W fun e w' => e = .returned (.tuple #[.agg (bC (idV F)).toArray, .int .i64 0]) ∧ Gr W w') := fun W hW => by
    rw [← hk, ← hF]; exact idB hok (hB.gr (HG.out.trans hW)) (hGs.gr (HG.out.trans hW))
  have HDG : Hid (∀ W, Calls Tryz.prog 19 #[.agg (bC (idV F)).toArray] W fun e w' => e = .returned (.agg (bC (half F)).toArray) ∧ Gr W w') := fun W => idDigestC F W
  have HPB := Lib.hid (secPublicC seed)
  have HSG : Hid (∀ W, Kt W → Calls Tryz.prog 18 #[.agg (secC seed 1).toArray, .int .i64 0, .agg (bC (half F)).toArray] W fun e w' => ∃ pv, e = .returned (.tuple #[.agg (sgC 0 (sigV seed 0 (half F)) pv).toArray, .int .i64 0]) ∧ OwnV 29 w' W.heap.size pv [lfV seed 1] ∧ Gr W w') := fun W h => sgSignC seed (half F) W h
  have k8 : pubC k.height k.root = pubC 1 (rootS seed) := by rw [← hk]; rfl
  have k9 : k.leaf = 0 := by rw [← hk]; rfl
  have b75 : oneB (cttC k) = true := by rw [← hk]; exact ctK_one _ _ _ _ _
  have l75 := cttC_length k
  rw [hF, hk]
  obtain ⟨E, hE⟩ : ∃ E, sigV seed 0 (half F) = E := ⟨_, rfl⟩
  rw [hE] at HSG ⊢
  obtain ⟨D, hD⟩ : ∃ D, half F = D := ⟨_, rfl⟩
  rw [hD] at HDG HSG
  obtain ⟨y, hy⟩ : ∃ y, idV F = y := ⟨_, rfl⟩
  rw [hy] at HID HDG
  generalize lfV seed 1 = L at *
  obtain ⟨r, hr⟩ : ∃ r, rootS seed = r := ⟨_, rfl⟩
  rw [hr] at HPB k8
  have hpe : pubEq 1 r 1 r = true := by simp [pubEq]
  have KS : Hid (∀ W, Gr U0 W → SecFacts W (n + 1) seed 1 ∧ CtFacts W n k) := fun W hW => ⟨(H1.out.gr hW).facts, ct_facts ((hW.block (lt_of_heap H0.out)).trans H0.out)⟩
  have b1 := bC32_len y
  have b2 := bC32_one y
  have b3 := secC_len seed 1
  have b4 := secC_one seed 1
  have b5 := pubC_one 1 r
  have b6 := pubC_length 1 r
  have b7 := bC16_len D
  have b8 := bC16_one D
  replace hU := Lib.hid hU
  have HBs := Lib.hid hB
  obtain ⟨⟨r0, r1, r2, r3, r4, r5⟩, f⟩ := KS.out U0 (Gr.refl U0)
  have f0 := f.w0
  have f1 := f.w1
  have f2 := f.z
  clear f hk hr hF hD hy hE hok hB hGs
  go_enter Tryz.func8, Tryz.ntmps8
  go_wp2_with fail
  try simp only [hn]
  rw [hU.out]
  refine (HID.out U0 (Gr.refl U0)).mono ?_
  rintro e w1 ⟨rfl, g1⟩
  have G1 := Lib.hid g1
  clear g1 r0 r1 r2 r3 r4 r5 f0 f1 f2
  obtain ⟨⟨r0, r1, r2, r3, r4, r5⟩, f⟩ := KS.out (w1.alloc (.cells (bC y).toArray 39)) (G1.out.alloc _)
  clear f
  obtain ⟨m, hm⟩ : ∃ m, w1.heap.size = m := ⟨_, rfl⟩
  have hx := Lib.hid (heap_new w1 (.cells (bC y).toArray 39) m hm.symm)
  go_wp2_with fail
  obtain ⟨w2, hw2⟩ : ∃ W, w1.alloc (.cells (bC y).toArray 39) = W := ⟨_, rfl⟩
  have G2 : Hid (Gr U0 w2) := by show Gr _ _; rw [← hw2]; exact G1.out.alloc _
  rw [hw2] at hx ⊢
  have HY : Hid (∀ W, Gr w2 W → W.rangeAt m 0 (bC y)) := fun W hW => by
    have h := (hW.block (lt_of_heap hx.out)).trans hx.out
    exact range_ofR (hasRow_block h 0 32 (by simp [bC32_len])) ((rowAt_block h 0 32 (by simp [bC32_len])).trans (rowOf_all _ _ (bC32_len y))) (bC32_len y)
  have hnm : Hid (n + 1 + 1 < m) := by show _ < _; rw [← hm]; exact lt_of_heap ((G1.out.block (lt_of_heap H2.out)).trans H2.out)
  clear hm
  refine (HPB.out w2 (HBs.out.gr (HG.out.trans G2.out)).k).mono ?_
  rintro e w3 ⟨rfl, g3⟩
  have G3 := Lib.hid g3
  clear g3 r0 r1 r2 r3 r4 r5
  obtain ⟨f', f⟩ := KS.out (w3.alloc (.cells (pubC 1 r).toArray 31)) ((G2.out.trans G3.out).alloc _)
  clear f'
  have f0 := f.pu0
  have f1 := f.pu1
  have f2 := f.z
  rw [k8] at f1
  clear f
  go_wp2_with fail
  obtain ⟨U4, hU4⟩ : ∃ W, w3.alloc (.cells (pubC 1 r).toArray 31) = W := ⟨_, rfl⟩
  have G4 : Hid (Gr w2 U4) := by show Gr _ _; rw [← hU4]; exact G3.out.alloc _
  have GU4 : Hid (Gr U0 U4) := G2.out.trans G4.out
  rw [hU4] at f0 f1 f2 ⊢
  clear f0 f1 f2
  have KR : Hid (∀ u : World, u.heap[n]? = U4.heap[n]? → u.heap[n + 1]? = U4.heap[n + 1]? → u.heap[m]? = U4.heap[m]? → hasRow u ⟨n + 1, 0, none⟩ 33 = true ∧ rowAt u ⟨n + 1, 0, none⟩ 33 = secC seed 1 ∧ u.cell? ⟨n, 73, none⟩ = some (.int .i64 0) ∧ u.rangeAt m 0 (bC y)) := fun u q0 q1 q2 => by
    have h0 := q0.trans ((GU4.out.block (lt_of_heap H0.out)).trans H0.out)
    have h1 : SecAt u (n + 1) seed 1 := ⟨q1.trans (H1.out.gr GU4.out).b⟩
    have h2 := q2.trans ((G4.out.block (lt_of_heap hx.out)).trans hx.out)
    refine ⟨h1.facts.a0, h1.facts.a1, by rw [(ct_facts h0).leaf, k9], ?_⟩
    exact range_ofR (hasRow_block h2 0 32 (by simp [bC32_len])) ((rowAt_block h2 0 32 (by simp [bC32_len])).trans (rowOf_all _ _ (bC32_len y))) (bC32_len y)
  have hn4 : Hid (m < U4.heap.size) := lt_of_heap ((G4.out.block (lt_of_heap hx.out)).trans hx.out)
  have KG : Hid (∀ u, Gr U4 u → hasRow u ⟨n + 1, 0, none⟩ 33 = true ∧ rowAt u ⟨n + 1, 0, none⟩ 33 = secC seed 1 ∧ u.cell? ⟨n, 73, none⟩ = some (.int .i64 0) ∧ u.rangeAt m 0 (bC y)) := fun u hu => by
    have h1 := hn4.out
    have h2 := hnm.out
    exact KR.out u (hu.block (by omega)) (hu.block (by omega)) (hu.block h1)
  have hu39 := Tryz.underlying39
  have hi39 : (Tryz.prog.info? 39).map (·.size) = some (bC y).length := by rw [bC32_len]; kernel_rfl
  replace hU4 := Lib.hid hU4
  refine wp_region_held_drew (S := (fun u => hasRow u ⟨n + 1, 0, none⟩ 33 = true ∧ rowAt u ⟨n + 1, 0, none⟩ 33 = secC seed 1 ∧ u.cell? ⟨n, 73, none⟩ = some (.int .i64 0) ∧ u.rangeAt m 0 (bC y))) (by kernel_rfl) (KG.out _ (Gr.refl U4).drew) (fun hHeld => ?_)
  refine wpAnyH_take (i := 0) (oi := { dst := some 32, op := Op.load 28 (Operand.tmp 3), type := 28, pos := "canonical.go:248", after := #[], guard := none }) (v := ?_) rfl (by kernel_rfl) (by kernel_rfl) (by kernel_rfl) (fun _ _ _ h => h) (Or.inl ⟨by rfl, ?_⟩) (by assumption) ?_
  rotate_left
  · intro u hSw; (try dsimp only at hSw); go_split_ands; go_simp; all_goals with_reducible rfl
  try simp only [Act.put, List.setIfInBounds_toArray, List.set_cons_zero, List.set_cons_succ]
  refine wpAnyH_take (i := 1) (oi := { dst := some 33, op := Op.fieldAddr 41 (Operand.tmp 2) 11, type := 0, pos := "canonical.go:248", after := #[], guard := none }) (v := ?_) rfl (by kernel_rfl) (by kernel_rfl) (by kernel_rfl) (fun _ _ _ h => h) (Or.inl ⟨by rfl, ?_⟩) (by assumption) ?_
  rotate_left
  · intro u hSw; (try dsimp only at hSw); go_split_ands; go_simp; all_goals with_reducible rfl
  try simp only [Act.put, List.setIfInBounds_toArray, List.set_cons_zero, List.set_cons_succ]
  refine wpAnyH_take (i := 2) (oi := { dst := some 34, op := Op.load 3 (Operand.tmp 33), type := 3, pos := "canonical.go:248", after := #[⟨1, Ground.data⟩], guard := none }) (v := ?_) rfl (by kernel_rfl) (by kernel_rfl) (by kernel_rfl) (fun _ _ _ h => h) (Or.inl ⟨by rfl, ?_⟩) (by assumption) ?_
  rotate_left
  · intro u hSw; (try dsimp only at hSw); go_split_ands; go_simp; all_goals with_reducible rfl
  try simp only [Act.put, List.setIfInBounds_toArray, List.set_cons_zero, List.set_cons_succ]
  refine wpAnyH_take (i := 3) (oi := { dst := some 35, op := Op.load 39 (Operand.tmp 6), type := 39, pos := "canonical.go:248", after := #[], guard := none }) (v := _) rfl (by kernel_rfl) (by kernel_rfl) (by kernel_rfl) (fun _ _ _ h => h) (yieldsIf_load_mid (by rfl) 39 _ rfl m 0 rfl (bC y) _ (fun u hSw => hSw.2.2.2) hu39 rfl hi39) (by assumption) ?_
  try simp only [Act.put, List.setIfInBounds_toArray, List.set_cons_zero, List.set_cons_succ]
  refine wpAnyH_ready (rs := [4]) (by kernel_rfl) (by simp) ?_
  refine AllReadyH.cons (o := { dst := some 36, op := Op.call { callee := Callee.value (Operand.func 19), args := #[Operand.tmp 35], argTypes := #[39] }, type := 29, pos := "canonical.go:248", after := #[⟨3, Ground.data⟩], guard := none }) rfl (fun K hK => ?_) AllReadyH.nil
  go_simp
  go_at_call 19
  refine (HDG.out _).mono ?_
  rintro e u1 ⟨rfl, g⟩
  have P1 := Gr.trans (Gr.refl U4).drew g
  clear g
  try go_wp2_with fail
  clear hHeld
  refine hK.out _ _ (KG.out _ P1) (fun hHeld => ?_)
  clear hK K
  try simp only [Act.put, List.setIfInBounds_toArray, List.set_cons_zero, List.set_cons_succ]
  refine wpAnyH_ready (rs := [5]) (by kernel_rfl) (by simp) ?_
  refine AllReadyH.cons (o := { dst := some 37, op := Op.call { callee := Callee.value (Operand.func 18), args := #[Operand.tmp 32, Operand.tmp 34, Operand.tmp 36], argTypes := #[28, 3, 29] }, type := 46, pos := "canonical.go:248", after := #[⟨0, Ground.data⟩, ⟨2, Ground.data⟩, ⟨4, Ground.data⟩, ⟨4, Ground.chain⟩], guard := none }) rfl (fun K hK => ?_) AllReadyH.nil
  go_simp
  go_at_call 18
  refine (HSG.out u1 (HBs.out.gr (HG.out.trans (GU4.out.trans P1))).k).mono ?_
  rintro e u2 ⟨pv, rfl, hpv, g⟩
  obtain ⟨ap, cp, hpe⟩ := hpv.shape
  replace hpe : pv = .slice ap 1 cp := hpe
  subst hpe
  have P2 := Gr.trans P1 g
  clear g
  try go_wp2_with fail
  clear hHeld
  refine hK.out _ _ (KG.out _ P2) (fun hHeld => ?_)
  clear hK K
  try simp only [Act.put, List.setIfInBounds_toArray, List.set_cons_zero, List.set_cons_succ]
  refine wpAnyH_take (i := 6) (oi := { dst := some 38, op := Op.extract (Operand.tmp 37) 0, type := 45, pos := "canonical.go:248", after := #[⟨5, Ground.data⟩], guard := none }) (v := ?_) rfl (by kernel_rfl) (by kernel_rfl) (by kernel_rfl) (fun _ _ _ h => h) (Or.inl ⟨by rfl, ?_⟩) (by assumption) ?_
  rotate_left
  · intro u hSw; (try dsimp only at hSw); go_split_ands; go_simp; all_goals with_reducible rfl
  try simp only [Act.put, List.setIfInBounds_toArray, List.set_cons_zero, List.set_cons_succ]
  refine wpAnyH_take (i := 7) (oi := { dst := some 39, op := Op.extract (Operand.tmp 37) 1, type := 32, pos := "canonical.go:248", after := #[⟨5, Ground.data⟩], guard := none }) (v := ?_) rfl (by kernel_rfl) (by kernel_rfl) (by kernel_rfl) (fun _ _ _ h => h) (Or.inl ⟨by rfl, ?_⟩) (by assumption) ?_
  rotate_left
  · intro u hSw; (try dsimp only at hSw); go_split_ands; go_simp; all_goals with_reducible rfl
  try simp only [Act.put, List.setIfInBounds_toArray, List.set_cons_zero, List.set_cons_succ]
  have HZ3 := Lib.hid (((GU4.out.trans P2).block (lt_of_heap H2.out)).trans H2.out)
  have z0 := hasRow_block HZ3.out 0 562 (by rw [sgC_len]; decide)
  have z1 := freeRow_block HZ3.out 0 562
  have z2 := lt_of_heap HZ3.out
  have z3 := sgC_len 0 E (.slice ap 1 cp)
  have z4 := sgC_one 0 E ap 1 cp
  refine wpAnyH_ready (rs := [8]) (by kernel_rfl) (by simp) ?_
  refine AllReadyH.cons (o := { dst := none, op := Op.store 45 (Operand.tmp 4) (Operand.tmp 38), type := 0, pos := "canonical.go:248", after := #[⟨6, Ground.data⟩, ⟨5, Ground.chain⟩, ⟨0, Ground.phase⟩, ⟨1, Ground.phase⟩, ⟨2, Ground.phase⟩, ⟨3, Ground.phase⟩, ⟨4, Ground.phase⟩, ⟨5, Ground.phase⟩, ⟨6, Ground.phase⟩, ⟨7, Ground.phase⟩], guard := none }) rfl (fun K hK => ?_) AllReadyH.nil
  go_simp
  clear hHeld
  have hnm' := hnm.out
  have hn4' := hn4.out
  refine hK.out _ _ (KR.out _ ((sets_other (by omega) _ _ _).trans (P2.block (by omega))) ((sets_other (by omega) _ _ _).trans (P2.block (by omega))) ((sets_other (by omega) _ _ _).trans (P2.block hn4.out))) (fun hHeld => ?_)
  clear hK K
  try simp only [Act.put, List.setIfInBounds_toArray, List.set_cons_zero, List.set_cons_succ]
  refine wpAnyH_take (i := 9) (oi := { dst := some 5, op := Op.assign (Operand.tmp 39), type := 32, pos := "canonical.go:248", after := #[⟨7, Ground.data⟩, ⟨8, Ground.chain⟩, ⟨0, Ground.phase⟩, ⟨1, Ground.phase⟩, ⟨2, Ground.phase⟩, ⟨3, Ground.phase⟩, ⟨4, Ground.phase⟩, ⟨5, Ground.phase⟩, ⟨6, Ground.phase⟩, ⟨7, Ground.phase⟩, ⟨8, Ground.phase⟩], guard := none }) (v := ?_) rfl (by kernel_rfl) (by kernel_rfl) (by kernel_rfl) (fun _ _ _ h => h) (Or.inl ⟨by rfl, ?_⟩) (by assumption) ?_
  rotate_left
  · intro u hSw; (try dsimp only at hSw); go_split_ands; go_simp; all_goals with_reducible rfl
  try simp only [Act.put, List.setIfInBounds_toArray, List.set_cons_zero, List.set_cons_succ]
  refine wpAnyH_done (by kernel_rfl) ?_ _
  have HE : Hid ((u2.setCells (n + 1 + 1) 0 (sgC 0 E (.slice ap 1 cp))).heap[n + 1 + 1]? = some (.cells (sgC 0 E (.slice ap 1 cp)).toArray 45 (0, 0))) := sets_whole HZ3.out (by rw [sgC_len, sgC_len])
  have HG7 := Lib.hid ((HG.out.trans (GU4.out.trans P2)).setsOwn (b := n + 1 + 1) (by have := HN.out; omega) (sgC 0 E (.slice ap 1 cp)) 0)
  have HO : Hid (OwnV 29 (u2.setCells (n + 1 + 1) 0 (sgC 0 E (.slice ap 1 cp))) w.heap.size (.slice ap 1 cp) [L]) := (hpv.kept (grown_atsV (sgC 0 E (.slice ap 1 cp)) 0 _ (grown_refl u2 (some (n + 1 + 1)))) (fun e => by have h1 := (hpv.own e).1; have := P1.size; omega)).base ((HG.out.trans (GU4.out.trans P1)).size)
  go_wp2_with fail
  refine bodyPost_ret (results_cellT rfl _ _ (n + 1 + 1) _ _ _ _ rfl HE.out Tryz.underlying45 rfl (sizeSgn _ _ _)) rfl ?_
  exact ⟨_, rfl, HO.out, HG7.out⟩
end Go.Proofs.YteknmbijodbfoaaGreatDoor

namespace Go.Proofs.YteknmbijodbfoaaGreatDoor
open Go.RowKit

set_option maxRecDepth 100000 in
set_option maxHeartbeats 4000000 in
theorem canVerifyC (a r : V16) (s : ByteArray) (g c : Nat) (hok : Ok a r s c) (E : Nat → V16) (pv : Value) (L : V16) (w : World) (hB : Bs w) (hGs : GsAt w g) (hp : Nds w pv [L]) :
    Calls Tryz.prog 31 #[.agg (cttC (ctK a r s g c)).toArray, .agg (sgC 0 E pv).toArray] w fun e w' => e = .returned (.int .i64 (if rootV (half (formL a r s)) ⟨0, E, [L]⟩ ≠ r then 17 else 0)) ∧ Gr w w' := by
  obtain ⟨n, hn⟩ : ∃ n, w.heap.size = n := ⟨_, rfl⟩
  have HN := Lib.hid hn
  obtain ⟨ap, cp, hpe⟩ := hp.shape
  replace hpe : pv = .slice ap 1 cp := hpe
  subst hpe
  obtain ⟨k, hk⟩ : ∃ k, ctK a r s g c = k := ⟨_, rfl⟩
  obtain ⟨U0, hU⟩ : ∃ U0, (w.alloc (.cells (cttC k).toArray 41)).alloc (.cells (sgC 0 E (.slice ap 1 cp)).toArray 45) = U0 := ⟨_, rfl⟩
  have H0 : Hid (U0.heap[n]? = some (.cells (cttC k).toArray 41 (0, 0))) := by
    show _ = _; rw [← hU]
    exact (((Gr.refl _).alloc _).block (by simp; omega)).trans (heap_new _ _ _ (by omega))
  have H1 : Hid (U0.heap[n + 1]? = some (.cells (sgC 0 E (.slice ap 1 cp)).toArray 45 (0, 0))) := by
    show _ = _; rw [← hU]
    exact heap_new _ _ _ (by simp; omega)
  have HG : Hid (Gr w U0) := by show Gr _ _; rw [← hU]; exact ((Gr.refl w).alloc _).alloc _
  obtain ⟨F, hF⟩ : ∃ F, formL a r s = F := ⟨_, rfl⟩
  have HID : Hid (∀ W, Gr U0 W → Calls Tryz.prog 17 #[.agg (cttC k).toArray] W fun e w' => e = .returned (.tuple #[.agg (bC (idV F)).toArray, .int .i64 0]) ∧ Gr W w') := fun W hW => by
    rw [← hk, ← hF]; exact idB hok (hB.gr (HG.out.trans hW)) (hGs.gr (HG.out.trans hW))
  have HDG : Hid (∀ W, Calls Tryz.prog 19 #[.agg (bC (idV F)).toArray] W fun e w' => e = .returned (.agg (bC (half F)).toArray) ∧ Gr W w') := fun W => idDigestC F W
  have HCK : Hid (∀ W, Calls Tryz.prog 55 #[.agg (sgC 0 E (.slice ap 1 cp)).toArray] W fun x w' => x = .returned (.int .i64 0) ∧ Gr W w') := fun W => sgCheckC 0 E ap 1 cp (by decide) (by decide) (by decide) W
  obtain ⟨z, hz⟩ : ∃ z : Int, (if rootV (half F) ⟨0, E, [L]⟩ ≠ r then 17 else 0) = z := ⟨_, rfl⟩
  have HVF : Hid (∀ W, Gr w W → Calls Tryz.prog 56 #[.agg (pubC 1 r).toArray, .agg (bC (half F)).toArray, .agg (sgC 0 E (.slice ap 1 cp)).toArray] W fun x w' => x = .returned (.int .i64 z) ∧ Gr W w') := fun W hW => by
    have h := verifyC 1 r (by decide) 0 E (.slice ap 1 cp) [L] (half F) (Nat.le_refl 1) (show 1 ≤ 8 by decide) (show 0 < 2 ^ 1 by decide) W (hB.gr hW).k (hp.gr hW)
    rw [← hz]
    simpa using h
  have k8 : pubC k.height k.root = pubC 1 r := by rw [← hk]; rfl
  have k9 : k.leaf = 0 := by rw [← hk]; rfl
  have b75 : oneB (cttC k) = true := by rw [← hk]; exact ctK_one _ _ _ _ _
  have l75 := cttC_length k
  rw [hF, hz, hk]
  obtain ⟨D, hD⟩ : ∃ D, half F = D := ⟨_, rfl⟩
  rw [hD] at HDG HVF
  obtain ⟨y, hy⟩ : ∃ y, idV F = y := ⟨_, rfl⟩
  rw [hy] at HID HDG
  have KS : Hid (∀ W, Gr U0 W → SgFacts W (n + 1) 0 E (.slice ap 1 cp) ∧ CtFacts W n k) := fun W hW => ⟨sg_facts ((hW.block (lt_of_heap H1.out)).trans H1.out), ct_facts ((hW.block (lt_of_heap H0.out)).trans H0.out)⟩
  have b1 := bC32_len y
  have b2 := bC32_one y
  have b3 := sgC_len 0 E (.slice ap 1 cp)
  have b4 := sgC_one 0 E ap 1 cp
  have b5 := pubC_one 1 r
  have b6 := pubC_length 1 r
  have b7 := bC16_len D
  have b8 := bC16_one D
  replace hU := Lib.hid hU
  obtain ⟨q, f⟩ := KS.out U0 (Gr.refl U0)
  have f0 := f.w0
  have f1 := f.w1
  have f2 := f.z
  clear f q hk hF hD hy hz hok hB hGs hp
  go_enter Tryz.func31, Tryz.ntmps31
  go_wp2_with fail
  try simp only [hn]
  rw [hU.out]
  refine (HID.out U0 (Gr.refl U0)).mono ?_
  rintro e w1 ⟨rfl, g1⟩
  have G1 := Lib.hid g1
  clear g1 f0 f1 f2
  obtain ⟨q, f⟩ := KS.out (w1.alloc (.cells (bC y).toArray 39)) (G1.out.alloc _)
  have f0 := q.h0
  have f1 := q.r0
  have f2 := q.z
  clear f q
  obtain ⟨m, hm⟩ : ∃ m, w1.heap.size = m := ⟨_, rfl⟩
  have hx := Lib.hid (heap_new w1 (.cells (bC y).toArray 39) m hm.symm)
  go_wp2_with fail
  obtain ⟨w2, hw2⟩ : ∃ W, w1.alloc (.cells (bC y).toArray 39) = W := ⟨_, rfl⟩
  have G2 : Hid (Gr U0 w2) := by show Gr _ _; rw [← hw2]; exact G1.out.alloc _
  rw [hw2] at hx ⊢
  clear hm f0 f1 f2
  refine (HCK.out w2).mono ?_
  rintro e w3 ⟨rfl, g3⟩
  have G3 := Lib.hid g3
  clear g3
  obtain ⟨q, f⟩ := KS.out w3 (G2.out.trans G3.out)
  have f0 := f.leaf
  have f1 := q.c0
  have f2 := f.z
  have f3 := q.z
  rw [k9] at f0
  clear f q
  go_wp2_with fail
  clear f0 f1 f2 f3
  have HY : Hid (w3.heap[m]? = some (.cells (bC y).toArray 39 (0, 0))) := (G3.out.block (lt_of_heap hx.out)).trans hx.out
  have KG : Hid (∀ u, Gr w3 u → hasRow u ⟨n, 56, none⟩ 17 = true ∧ rowAt u ⟨n, 56, none⟩ 17 = pubC 1 r ∧ hasRow u ⟨n + 1, 0, none⟩ 562 = true ∧ rowAt u ⟨n + 1, 0, none⟩ 562 = (sgC 0 E (.slice ap 1 cp)) ∧ u.rangeAt m 0 (bC y)) := fun u hu => by
    obtain ⟨q, f⟩ := KS.out u (G2.out.trans (G3.out.trans hu))
    have h2 := (hu.block (lt_of_heap HY.out)).trans HY.out
    refine ⟨f.pu0, by rw [f.pu1, k8], q.h0, q.r0, ?_⟩
    exact range_ofR (hasRow_block h2 0 32 (by simp [bC32_len])) ((rowAt_block h2 0 32 (by simp [bC32_len])).trans (rowOf_all _ _ (bC32_len y))) (bC32_len y)
  have hu39 := Tryz.underlying39
  have hi39 : (Tryz.prog.info? 39).map (·.size) = some (bC y).length := by rw [bC32_len]; kernel_rfl
  refine wp_region_held_drew (S := (fun u => hasRow u ⟨n, 56, none⟩ 17 = true ∧ rowAt u ⟨n, 56, none⟩ 17 = pubC 1 r ∧ hasRow u ⟨n + 1, 0, none⟩ 562 = true ∧ rowAt u ⟨n + 1, 0, none⟩ 562 = (sgC 0 E (.slice ap 1 cp)) ∧ u.rangeAt m 0 (bC y))) (by kernel_rfl) (KG.out _ (Gr.refl w3).drew) (fun hHeld => ?_)
  refine wpAnyH_take (i := 0) (oi := { dst := some 26, op := Op.fieldAddr 41 (Operand.tmp 2) 10, type := 0, pos := "canonical.go:263", after := #[], guard := none }) (v := ?_) rfl (by kernel_rfl) (by kernel_rfl) (by kernel_rfl) (fun _ _ _ h => h) (Or.inl ⟨by rfl, ?_⟩) (by assumption) ?_
  rotate_left
  · intro u hSw; (try dsimp only at hSw); go_split_ands; go_simp; all_goals with_reducible rfl
  try simp only [Act.put, List.setIfInBounds_toArray, List.set_cons_zero, List.set_cons_succ]
  refine wpAnyH_take (i := 1) (oi := { dst := some 27, op := Op.load 31 (Operand.tmp 26), type := 31, pos := "canonical.go:263", after := #[⟨0, Ground.data⟩], guard := none }) (v := ?_) rfl (by kernel_rfl) (by kernel_rfl) (by kernel_rfl) (fun _ _ _ h => h) (Or.inl ⟨by rfl, ?_⟩) (by assumption) ?_
  rotate_left
  · intro u hSw; (try dsimp only at hSw); go_split_ands; go_simp; all_goals with_reducible rfl
  try simp only [Act.put, List.setIfInBounds_toArray, List.set_cons_zero, List.set_cons_succ]
  refine wpAnyH_take (i := 2) (oi := { dst := some 28, op := Op.load 39 (Operand.tmp 5), type := 39, pos := "canonical.go:263", after := #[], guard := none }) (v := _) rfl (by kernel_rfl) (by kernel_rfl) (by kernel_rfl) (fun _ _ _ h => h) (yieldsIf_load_mid (by rfl) 39 _ rfl m 0 rfl (bC y) _ (fun u hSw => hSw.2.2.2.2) hu39 rfl hi39) (by assumption) ?_
  try simp only [Act.put, List.setIfInBounds_toArray, List.set_cons_zero, List.set_cons_succ]
  refine wpAnyH_take (i := 4) (oi := { dst := some 30, op := Op.load 45 (Operand.tmp 3), type := 45, pos := "canonical.go:263", after := #[], guard := none }) (v := ?_) rfl (by kernel_rfl) (by kernel_rfl) (by kernel_rfl) (fun _ _ _ h => h) (Or.inl ⟨by rfl, ?_⟩) (by assumption) ?_
  rotate_left
  · intro u hSw; (try dsimp only at hSw); go_split_ands; go_simp; all_goals with_reducible rfl
  try simp only [Act.put, List.setIfInBounds_toArray, List.set_cons_zero, List.set_cons_succ]
  refine wpAnyH_ready (rs := [3]) (by kernel_rfl) (by simp) ?_
  refine AllReadyH.cons (o := { dst := some 29, op := Op.call { callee := Callee.value (Operand.func 19), args := #[Operand.tmp 28], argTypes := #[39] }, type := 29, pos := "canonical.go:263", after := #[⟨2, Ground.data⟩], guard := none }) rfl (fun K hK => ?_) AllReadyH.nil
  go_simp
  go_at_call 19
  refine (HDG.out _).mono ?_
  rintro e u1 ⟨rfl, g⟩
  have P1 := Gr.trans (Gr.refl w3).drew g
  clear g
  try go_wp2_with fail
  clear hHeld
  refine hK.out _ _ (KG.out _ P1) (fun hHeld => ?_)
  clear hK K
  try simp only [Act.put, List.setIfInBounds_toArray, List.set_cons_zero, List.set_cons_succ]
  refine wpAnyH_ready (rs := [5]) (by kernel_rfl) (by simp) ?_
  refine AllReadyH.cons (o := { dst := some 31, op := Op.call { callee := Callee.value (Operand.func 56), args := #[Operand.tmp 27, Operand.tmp 29, Operand.tmp 30], argTypes := #[31, 29, 45] }, type := 32, pos := "canonical.go:263", after := #[⟨1, Ground.data⟩, ⟨3, Ground.data⟩, ⟨4, Ground.data⟩, ⟨3, Ground.chain⟩], guard := none }) rfl (fun K hK => ?_) AllReadyH.nil
  go_simp
  go_at_call 56
  refine (HVF.out u1 (HG.out.trans (G2.out.trans (G3.out.trans P1)))).mono ?_
  rintro e u2 ⟨rfl, g⟩
  have P2 := Gr.trans P1 g
  clear g
  try go_wp2_with fail
  clear hHeld
  refine hK.out _ _ (KG.out _ P2) (fun hHeld => ?_)
  clear hK K
  try simp only [Act.put, List.setIfInBounds_toArray, List.set_cons_zero, List.set_cons_succ]
  refine wpAnyH_take (i := 6) (oi := { dst := some 4, op := Op.assign (Operand.tmp 31), type := 32, pos := "canonical.go:263", after := #[⟨5, Ground.data⟩, ⟨5, Ground.chain⟩, ⟨0, Ground.phase⟩, ⟨1, Ground.phase⟩, ⟨2, Ground.phase⟩, ⟨3, Ground.phase⟩, ⟨4, Ground.phase⟩, ⟨5, Ground.phase⟩], guard := none }) (v := ?_) rfl (by kernel_rfl) (by kernel_rfl) (by kernel_rfl) (fun _ _ _ h => h) (Or.inl ⟨by rfl, ?_⟩) (by assumption) ?_
  rotate_left
  · intro u hSw; (try dsimp only at hSw); go_split_ands; go_simp; all_goals with_reducible rfl
  try simp only [Act.put, List.setIfInBounds_toArray, List.set_cons_zero, List.set_cons_succ]
  refine wpAnyH_done (by kernel_rfl) ?_ _
  go_wp2_with fail
  go_ret
  exact ⟨rfl, HG.out.trans (G2.out.trans (G3.out.trans P2))⟩
end Go.Proofs.YteknmbijodbfoaaGreatDoor

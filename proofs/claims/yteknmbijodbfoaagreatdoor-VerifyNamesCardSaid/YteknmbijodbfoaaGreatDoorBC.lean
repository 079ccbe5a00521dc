/- control.Print: what it returns, kind by kind; the callees' answers as premises. control.Print of a definition. The words of a text, read one after the other: fail, next, group. Numbers read off words: decimal. What reads a group's name and a number off the words. Stores into a call's own blocks, in whatever world. What reads the words of a removal. The map of the readers: made in whatever order its entries come. control.forms: the map of the readers. control.Parse: what it returns, where a word names a reader. -/
import Derived.Test.YteknmbijodbfoaaGreatDoorBB
import Derived.WideMake
namespace Go.Proofs.YteknmbijodbfoaaGreatDoor
open Go.RowKit

/-- The words of a command's text. -/
def modeS (c : Cm) : ByteArray := if c.moderated = true then bs (modT ++ 32 :: Lib.join (c.mods.map fun a => hexT a.toList) [44]) else bs openT
def itoaS (n : Int) : ByteArray := bs (Lib.itoa n)
def pubT (h : Int) (r : Aut) : Str := encL (UInt8.ofNat h.toNat :: r.toList)
def wordsP (c : Cm) : List ByteArray :=
  if c.kind = 1 then [kindS 1, bs (midT c.target)] else if c.kind = 2 then [kindS 2, bs (midT c.target), c.group]
  else if c.kind = 3 then [kindS 3] ++ [c.group, itoaS c.version, modeS c] ++ (if c.text = ⟨#[]⟩ then [] else [c.text])
  else if c.kind = 4 then [kindS 4] ++ [c.group, itoaS c.version] else [kindS 5] ++ [itoaS c.number, bs (pubT c.height c.root)]
def printS (c : Cm) : Str := Lib.join ((wordsP c).map bl) [32]

def ItoaAt (w : World) (n : Int) : Prop := ∀ U, Gr w U → Calls Tryz.prog 79 #[.int .i64 n] U fun e w' => e = .returned (.string (itoaS n)) ∧ Gr U w'
theorem itoa_small {w : World} {n : Nat} (h : n < 100) : ItoaAt w (n : Int) := fun U _ => (Tryz.strconv_Itoa_small n h U).mono fun e w' ⟨he, hw⟩ => by
  subst hw
  refine ⟨?_, Gr.refl _⟩
  rw [he]; unfold itoaS bs; rw [Lib.itoa, if_neg (by omega), Int.toNat_natCast]
theorem grown_block {w w' : World} {row : Option Nat} (h : w.grownBy w' row) {b : Nat} {o : Obj} (hb : w.heap[b]? = some o) (hr : row ≠ some b) : w'.heap[b]? = some o :=
  (h.block b (Array.getElem?_eq_some_iff.1 hb).1 (fun e => hr e.symm)).trans hb
theorem grown_cell {w w' : World} {row : Option Nat} (h : w.grownBy w' row) {p : Addr} {v : Value} (hc : w.cell? p = some v) (hr : row ≠ some p.block) : w'.cell? p = some v :=
  (World.cell?_of_block (h.block p.block (World.block_lt_of_cell? w p hc) (fun e => hr e.symm))).trans hc
theorem grown_hasRow {w w' : World} {row : Option Nat} (h : w.grownBy w' row) {b k n : Nat} (hc : hasRow w ⟨b, k, none⟩ (n + 1) = true) (hr : row ≠ some b) : hasRow w' ⟨b, k, none⟩ (n + 1) = true := by
  have hlt := hasRow_lt hc (Nat.succ_pos n)
  rw [hasRow_congr fun i _ => World.cell?_of_block (w := w) (by rw [add_block]; exact h.block b hlt (fun e => hr e.symm))]; exact hc
theorem grown_rowAt {w w' : World} {row : Option Nat} (h : w.grownBy w' row) {b k n : Nat} {cs : List Value} (hc : hasRow w ⟨b, k, none⟩ (n + 1) = true) (hv : rowAt w ⟨b, k, none⟩ (n + 1) = cs) (hr : row ≠ some b) : rowAt w' ⟨b, k, none⟩ (n + 1) = cs := by
  have hlt := hasRow_lt hc (Nat.succ_pos n)
  rw [rowAt_congr fun i _ => World.cell?_of_block (w := w) (by rw [add_block]; exact h.block b hlt (fun e => hr e.symm))]; exact hv
theorem grown_size {w w' : World} {row : Option Nat} (h : w.grownBy w' row) : w.heap.size ≤ w'.heap.size := h.size

end Go.Proofs.YteknmbijodbfoaaGreatDoor

namespace Go.Proofs.YteknmbijodbfoaaGreatDoor
open Go.RowKit

theorem empty_iff (s : ByteArray) : s.toList.isEmpty = true ↔ s = ⟨#[]⟩ := by
  rw [bl_toList, List.isEmpty_iff]
  exact ⟨fun h => bl_inj h, fun h => by rw [h]; rfl⟩
section
variable (t : Id) (g : ByteArray) (n : Int) (m : Bool) (l : List Aut) (tx : ByteArray) (nu ht : Int) (r : Aut)
theorem prt3_empty (h : tx = ⟨#[]⟩) : printS ⟨3, t, g, n, m, l, tx, nu, ht, r⟩ = Lib.join (([kindS 3] ++ [g, itoaS n, modeS ⟨3, t, g, n, m, l, tx, nu, ht, r⟩]).map bl) (bl ⟨#[32]⟩) := by subst h; rfl
theorem prt3_text (h : ¬ tx = ⟨#[]⟩) : printS ⟨3, t, g, n, m, l, tx, nu, ht, r⟩ = Lib.join ((([kindS 3] ++ [g, itoaS n, modeS ⟨3, t, g, n, m, l, tx, nu, ht, r⟩]) ++ [tx]).map bl) (bl ⟨#[32]⟩) := by
  have e : wordsP ⟨3, t, g, n, m, l, tx, nu, ht, r⟩ = ([kindS 3] ++ [g, itoaS n, modeS ⟨3, t, g, n, m, l, tx, nu, ht, r⟩]) ++ [tx] := by
    unfold wordsP; rw [if_neg (by show ¬ (3 : Int) = 1; decide), if_neg (by show ¬ (3 : Int) = 2; decide), if_pos rfl, if_neg h]
  unfold printS; rw [e]; rfl
end
end Go.Proofs.YteknmbijodbfoaaGreatDoor

namespace Go.Proofs.YteknmbijodbfoaaGreatDoor
open Go.RowKit

/-- Block b is a reader of s, in state p. -/
def PSAt (w : World) (b : Nat) (s : ByteArray) (p : PS) : Prop := w.heap[b]? = some (.cells #[.string s, .int .i64 p.start, .int .i64 p.fin, .int .i64 p.at_, .int .i64 p.e] 217 (0, 0))
theorem PSAt.gr {w w' : World} {b : Nat} {s : ByteArray} {p : PS} (h : PSAt w b s p) (hg : Gr w w') : PSAt w' b s p := (hg.block (Array.getElem?_eq_some_iff.1 h).1).trans h
theorem PSAt.facts {w : World} {b : Nat} {s : ByteArray} {p : PS} (h : PSAt w b s p) : w.cell? ⟨b, 0, none⟩ = some (.string s) ∧ w.cell? ⟨b, 1, none⟩ = some (.int .i64 p.start) ∧ w.cell? ⟨b, 2, none⟩ = some (.int .i64 p.fin) ∧ w.cell? ⟨b, 3, none⟩ = some (.int .i64 p.at_) ∧ w.cell? ⟨b, 4, none⟩ = some (.int .i64 p.e) ∧ (∀ k, w.frozen? ⟨b, k, none⟩ = false) ∧ b < w.heap.size :=
  ⟨cell_of_row w b 0 _ _ _ h, cell_of_row w b 1 _ _ _ h, cell_of_row w b 2 _ _ _ h, cell_of_row w b 3 _ _ _ h, cell_of_row w b 4 _ _ _ h, fun k => (by have h' : w.heap[b]? = _ := h; simp [World.frozen?, h']), (Array.getElem?_eq_some_iff.1 h).1⟩
theorem grown_set (w : World) (b k : Nat) (u : Value) : w.grownBy (w.setCell ⟨b, k, none⟩ u) (some b) :=
  ⟨rfl, rfl, rfl, by simp, fun j _ hk => heap_setCell_other w ⟨b, k, none⟩ j u (fun e => hk (by rw [e]))⟩
theorem grown_refl (w : World) (row : Option Nat) : w.grownBy w row := ⟨rfl, rfl, rfl, Nat.le_refl _, fun _ _ _ => rfl⟩
theorem grown_trans {a b c : World} {row : Option Nat} (h : a.grownBy b row) (k : b.grownBy c row) : a.grownBy c row :=
  ⟨k.os.trans h.os, k.tape.trans h.tape, k.output.trans h.output, Nat.le_trans h.size k.size, fun i hi hn => (k.block i (Nat.lt_of_lt_of_le hi h.size) hn).trans (h.block i hi hn)⟩
theorem grown_gr {a b : World} {row : Option Nat} (h : Gr a b) : a.grownBy b row := ⟨h.os, h.tape, h.output, h.size, fun _i hi _ => h.block hi⟩
theorem PSAt.set1 {w : World} {b : Nat} {s : ByteArray} {p : PS} (h : PSAt w b s p) (n : Nat) : PSAt (w.setCell ⟨b, 1, none⟩ (.int .i64 n)) b s { p with start := n } := heap_setCell_same w b 1 _ _ _ h
theorem PSAt.set2 {w : World} {b : Nat} {s : ByteArray} {p : PS} (h : PSAt w b s p) (n : Nat) (r : List Str) : PSAt (w.setCell ⟨b, 2, none⟩ (.int .i64 n)) b s { p with fin := n, rest := r } := heap_setCell_same w b 2 _ _ _ h
theorem PSAt.set3 {w : World} {b : Nat} {s : ByteArray} {p : PS} (h : PSAt w b s p) (n : Nat) : PSAt (w.setCell ⟨b, 3, none⟩ (.int .i64 n)) b s { p with at_ := n } := heap_setCell_same w b 3 _ _ _ h
theorem PSAt.set4 {w : World} {b : Nat} {s : ByteArray} {p : PS} (h : PSAt w b s p) (n : Int) : PSAt (w.setCell ⟨b, 4, none⟩ (.int .i64 n)) b s { p with e := n } := heap_setCell_same w b 4 _ _ _ h

/-- What a method of the reader leaves. -/
def PSPost (b : Nat) (s : ByteArray) (p : PS) (w : World) (v : Value) (e : Ending) (w' : World) : Prop := e = .returned v ∧ PSAt w' b s p ∧ w.grownBy w' (some b)
set_option maxRecDepth 100000 in
set_option maxHeartbeats 1000000 in
theorem failC (b : Nat) (s : ByteArray) (p : PS) (a : Nat) (er : Int) (w : World) (h : PSAt w b s p) :
    Calls Tryz.prog 121 #[.pointer (some ⟨b, 0, none⟩), .int .i64 a, .int .i64 er] w (PSPost b s (p.fail a er) w (.tuple #[])) := by
  obtain ⟨c0, c1, c2, c3, c4, hf, hz⟩ := h.facts
  have hf3 := hf 3; have hf4 := hf 4
  have H := Lib.hid h
  clear h hf
  by_cases h0 : p.e = 0 ∧ er ≠ 0
  · have HF : Hid (p.fail a er = { p with at_ := a, e := er }) := by show _ = _; unfold PS.fail; rw [if_pos h0]
    have e1 : (er != 0) = true := by simp [h0.2]
    rw [h0.1] at c4
    clear h0
    go_enter Tryz.func121, Tryz.ntmps121
    go_wp2_with fail
    go_end0
    refine ⟨rfl, ?_, ?_⟩
    · rw [HF.out]; exact (H.out.set3 a).set4 er
    · exact grown_trans (grown_set _ _ _ _) (grown_set _ _ _ _)
  · have HF : Hid (p.fail a er = p) := by show _ = _; unfold PS.fail; rw [if_neg h0]
    by_cases hp : p.e = 0
    · have e1 : er = 0 := Decidable.byContradiction fun q => h0 ⟨hp, q⟩
      subst e1
      rw [hp] at c4
      clear h0
      go_enter Tryz.func121, Tryz.ntmps121
      go_wp2_with fail
      go_end0
      exact ⟨rfl, by rw [HF.out]; exact H.out, grown_refl _ _⟩
    · have e1 : (p.e == 0) = false := by simp [hp]
      clear h0 hp
      go_enter Tryz.func121, Tryz.ntmps121
      go_wp2_with fail
      go_end0
      exact ⟨rfl, by rw [HF.out]; exact H.out, grown_refl _ _⟩

theorem bl_extract (s : ByteArray) (k : Nat) : bl (s.extract k s.size) = (bl s).drop k := by
  have e : s.size = s.data.toList.length := Lib.size_eq s
  unfold bl
  rw [ByteArray.data_extract, Array.toList_extract, List.extract_eq_take_drop, List.take_of_length_le (by rw [List.length_drop, e]; exact Nat.le_refl _)]
/-- strings.Cut at a space, whatever the count of draws. -/
theorem cutC (t : ByteArray) (m : Int) (W : World) (hs : t.size ≤ 1000000) (hm : W.cell? ⟨5, 0, none⟩ = some (.int .i64 m)) :
    ∃ y z, ∀ n, Calls Tryz.prog 119 #[.string t, .string ⟨#[32]⟩] (W.drewN n) fun e w'' => e = .returned (.tuple #[.string (bs (Lib.cut (bl t) [32]).1), .string y, .bool z]) ∧ ∃ k, w'' = W.drewN k :=
  ⟨_, _, fun n => (Tryz.strings_Cut t ⟨#[32]⟩ m (W.drewN n) (by omega) hm).mono fun _ _ ⟨he, k, hk⟩ => ⟨he, n + k, by rw [hk, World.drewN_drewN]⟩⟩
theorem bs_size (x : Str) : (bs x).size = x.length := rfl
theorem extract_size_le (s : ByteArray) (k : Nat) : (s.extract k s.size).size ≤ s.size := by
  rw [← bl_length, bl_extract, List.length_drop, bl_length]; omega
set_option maxRecDepth 100000 in
set_option maxHeartbeats 2000000 in
theorem nextC (b : Nat) (s : ByteArray) (p : PS) (w : World) (h : PSAt w b s p) (hok : PSok (bl s) p) (hs : s.size ≤ 1000000) (hE : Env w) (hb : 5 < b) :
    Calls Tryz.prog 177 #[.pointer (some ⟨b, 0, none⟩)] w (PSPost b s (p.next s.size).1 w (.tuple #[.string (bs (p.next s.size).2.1), .bool (p.next s.size).2.2])) := by
  obtain ⟨c0, c1, c2, c3, c4, hf, hz⟩ := h.facts
  have hend := hok.end_
  rw [bl_length] at hend
  by_cases he : p.e = 0
  · cases hr : p.rest with
    | nil =>
      have hfin := hend.1 hr
      have HF : Hid (p.next s.size = ({ p with at_ := s.size, e := 4 }, [], false)) := by show _ = _; unfold PS.next; rw [if_neg (by simp [he]), hr]
      have HFL : Hid (p.fail s.size 4 = { p with at_ := s.size, e := 4 }) := by show _ = _; unfold PS.fail; rw [if_pos ⟨he, by decide⟩]
      rw [he] at c4
      rw [hfin] at c2
      have H := Lib.hid h
      clear hend hf
      go_enter Tryz.func177, Tryz.ntmps177
      go_wp2_with fail
      go_quiet (fail)
      go_wp2_with fail
      refine (failC b s p s.size 4 _ (H.out.gr ((Gr.refl w).drewN _))).mono ?_
      rintro e w1 ⟨rfl, h1, hg1⟩
      rw [HFL.out] at h1
      obtain ⟨d0, d1, d2, d3, d4, _, hz1⟩ := h1.facts
      have HG := Lib.hid (grown_trans (grown_gr ((Gr.refl w).drewN nq)) hg1)
      have H1 := Lib.hid h1
      clear hg1 h1
      go_wp2_with fail
      go_ret2
      exact ⟨by rw [HF.out]; rfl, by rw [HF.out]; exact H1.out, HG.out⟩
    | cons x xs =>
      obtain ⟨hcut, hok2, hle⟩ := hok.cut hr
      rw [bl_length] at hle
      have HF : Hid (p.next s.size = ({ p with start := p.fin + 1, fin := p.fin + 1 + x.length, rest := xs }, x, true)) := by show _ = _; unfold PS.next; rw [if_neg (by simp [he]), hr]
      have hne : ((p.fin : Int) == (s.size : Int)) = false := by simp; omega
      rw [he] at c4
      have H := Lib.hid h
      obtain ⟨mx, hm⟩ := hE
      clear hend
      go_enter Tryz.func177, Tryz.ntmps177
      go_wp2_with fail
      go_quiet (fail)
      go_wp2_with fail
      have e1 : ((p.fin : Int) + 1) = ((p.fin + 1 : Nat) : Int) := by omega
      rw [e1]
      have h2 := PSAt.set1 (H.out.gr ((Gr.refl w).drewN nq)) (p.fin + 1)
      have hg2 := grown_trans (grown_gr (row := some b) ((Gr.refl w).drewN nq)) (grown_set (w.drewN nq) b 1 (.int .i64 ((p.fin + 1 : Nat) : Int)))
      generalize (w.drewN nq).setCell ⟨b, 1, none⟩ (.int .i64 ((p.fin + 1 : Nat) : Int)) = W1 at *
      obtain ⟨d0, d1, d2, d3, d4, hf1, hz1⟩ := h2.facts
      have hm1 := grown_cell hg2 hm (by simp <;> omega)
      have H2 := Lib.hid h2; have HG2 := Lib.hid hg2
      have hk1 : ((p.fin + 1 : Nat) : Int) ≤ (s.size : Int) := by omega
      have hk2 : (0 : Int) ≤ ((p.fin + 1 : Nat) : Int) := by omega
      have HC := Lib.hid hcut; have HOK := Lib.hid hok2; have HR := Lib.hid hr
      simp only at d0 d1 d2 d3 d4
      clear e1 hcut hok2 hr hok h he h2 hg2 c0 c1 c2 c3 c4 hf hm
      obtain ⟨y, z, hcc⟩ := cutC (s.extract (p.fin + 1) s.size) mx W1 (Nat.le_trans (extract_size_le s _) hs) hm1
      rw [bl_extract, HC.out] at hcc
      have HCC := Lib.hid hcc
      clear hcc
      go_quiet ((go_at_call 119; exact HCC.out _))
      have hx := bs_size x
      have hx2 : ((p.fin + 1 : Nat) : Int) + (x.length : Int) ≤ 1000000 := by have := HOK.out.1; simp only at this; rw [bl_length] at this; omega
      have hw : IntKind.i64.wrap (((p.fin + 1 : Nat) : Int) + (x.length : Int)) = ((p.fin + 1 + x.length : Nat) : Int) := by rw [IntKind.wrap_i64]; omega
      have hw2 : IntKind.i64.wrap ((p.fin : Int) + 1 + (x.length : Int)) = ((p.fin + 1 + x.length : Nat) : Int) := by rw [IntKind.wrap_i64]; omega
      go_wp2_with fail
      have e2 : ((p.fin : Int) + 1 + (x.length : Int)) = ((p.fin + 1 + x.length : Nat) : Int) := by omega
      have h3 := Lib.hid (PSAt.set2 (H2.out.gr ((Gr.refl W1).drewN nq)) (p.fin + 1 + x.length) xs)
      have hg3 := Lib.hid (grown_trans HG2.out (grown_trans (grown_gr ((Gr.refl W1).drewN nq)) (grown_set (W1.drewN nq) b 2 (.int .i64 ((p.fin + 1 + x.length : Nat) : Int)))))
      go_ret2
      rw [e2]
      exact ⟨by rw [HF.out]; rfl, by rw [HF.out]; exact h3.out, hg3.out⟩
  · have HF : Hid (p.next s.size = (p, [], false)) := by show _ = _; unfold PS.next; rw [if_pos he]
    have e1 : (p.e == 0) = false := by simp [he]
    have e2 : (p.e != 0) = true := by simp [he]
    have H := Lib.hid h
    clear hend hok he hf
    go_enter Tryz.func177, Tryz.ntmps177
    go_wp2_with fail
    go_quiet (fail)
    go_wp2_with fail
    go_ret2
    exact ⟨by rw [HF.out]; rfl, by rw [HF.out]; exact H.out.gr ((Gr.refl w).drewN nq), grown_gr ((Gr.refl w).drewN nq)⟩
end Go.Proofs.YteknmbijodbfoaaGreatDoor

namespace Go.Proofs.YteknmbijodbfoaaGreatDoor
open Go.RowKit

theorem decT_succ (s : ByteArray) (k : Nat) (h : k < s.size) : ((bl s).take (k + 1)).all isD = (((bl s).take k).all isD && (!decide ((s[k].toNat : Int) < 48) && !decide (57 < (s[k].toNat : Int)))) ∧ numL ((bl s).take (k + 1)) = 10 * numL ((bl s).take k) + (s[k].toNat - 48) := by
  have hl : k < (bl s).length := by rw [bl_length]; exact h
  have e : (bl s)[k] = s[k] := rfl
  rw [List.take_succ_eq_append_getElem hl, e]
  refine ⟨?_, numL_snoc _ _⟩
  rw [List.all_append]
  congr 1
  rw [List.all_cons, List.all_nil, Bool.and_true]
  unfold isD
  rw [Bool.eq_iff_iff]
  simp
  omega
theorem all_stop (s : Str) (k : Nat) (h : (s.take k).all isD = false) : s.all isD = false := by
  cases hs : s.all isD with
  | false => rfl
  | true =>
    rw [← List.take_append_drop k s, List.all_append, Bool.and_eq_true] at hs
    rw [hs.1] at h; cases h
def decR2 (s : Str) : Value := .tuple #[.int .i64 (if numB s = true then (numL s : Int) else 0), .bool (numB s)]
theorem headD_get (s : ByteArray) (h : 0 < s.size) : (bl s).headD 0 = s[0] := by
  have hl : 0 < (bl s).length := by rw [bl_length]; exact h
  obtain ⟨c, l, hcl⟩ : ∃ c l, bl s = c :: l := by cases e : bl s with | nil => rw [e] at hl; simp at hl | cons c l => exact ⟨c, l, rfl⟩
  have e : (bl s)[0]'hl = s[0] := rfl
  exact Eq.trans (show (bl s).headD 0 = c by rw [hcl]; rfl) (Eq.trans (by simp [hcl]) e)
set_option maxRecDepth 100000 in
set_option maxHeartbeats 2000000 in
theorem decimalC (s : ByteArray) (w : World) : Calls Tryz.prog 179 #[.string s] w fun e w' => e = .returned (decR2 (bl s)) ∧ w = w' := by
  have hsz := bl_length s
  by_cases h0 : s.size = 0
  · have hl : bl s = [] := List.length_eq_zero_iff.1 (by rw [hsz]; exact h0)
    have he : s.toList.isEmpty = true := by rw [bl_toList, hl]; rfl
    have HF : Hid (decR2 (bl s) = .tuple #[.int .i64 0, .bool false]) := by show _ = _; rw [hl]; rfl
    clear hl h0 hsz
    go_enter Tryz.func179, Tryz.ntmps179
    go_wp2_with fail
    go_ret2
    exact ⟨by rw [HF.out]; rfl, rfl⟩
  · have hp : 0 < s.size := by omega
    have he : s.toList.isEmpty = false := by rw [bl_toList, List.isEmpty_eq_false_iff]; intro h; rw [h] at hsz; simp at hsz; omega
    by_cases h7 : 7 < s.size
    · have HF : Hid (decR2 (bl s) = .tuple #[.int .i64 0, .bool false]) := by
        have : numB (bl s) = false := by unfold numB; rw [hsz]; simp; omega
        show _ = _; unfold decR2; rw [this]; rfl
      have hd : decide (7 < (s.size : Int)) = true := by simp; omega
      clear hsz h0
      go_enter Tryz.func179, Tryz.ntmps179
      go_wp2_with fail
      go_ret2
      exact ⟨by rw [HF.out]; rfl, rfl⟩
    · have hd : decide (7 < (s.size : Int)) = false := by simp; omega
      have HH := Lib.hid (headD_get s hp)
      by_cases h1 : 1 < s.size ∧ s[0].toNat = 48
      · have HF : Hid (decR2 (bl s) = .tuple #[.int .i64 0, .bool false]) := by
          have : numB (bl s) = false := by
            unfold numB; rw [hsz, HH.out]
            have : (s[0] == 48) = true := by rw [beq_iff_eq]; exact UInt8.toNat_inj.1 h1.2
            rw [this]; simp [h1.1]
          show _ = _; unfold decR2; rw [this]; rfl
        have hd1 : decide (1 < (s.size : Int)) = true := by simp; omega
        have hc : ((s[0].toNat : Int) == 48) = true := by rw [h1.2]; rfl
        clear hsz h0 h1
        go_enter Tryz.func179, Tryz.ntmps179
        go_wp2_with fail
        go_ret2
        exact ⟨by rw [HF.out]; rfl, rfl⟩
      · have HN : Hid (numB (bl s) = (bl s).all isD) := by
          show _ = _
          unfold numB; rw [hsz, HH.out]
          have a1 : decide (1 ≤ s.size) = true := by simp; omega
          have a2 : decide (s.size ≤ 7) = true := by simp; omega
          have a3 : (decide (1 < s.size) && s[0] == 48) = false := by
            rw [Bool.and_eq_false_iff]
            by_cases q : 1 < s.size
            · right; rw [beq_eq_false_iff_ne]; intro e; exact h1 ⟨q, by rw [e]; rfl⟩
            · left; simpa using q
          rw [a1, a2, a3]; rfl
        have hcases : decide (1 < (s.size : Int)) = false ∨ (decide (1 < (s.size : Int)) = true ∧ ((s[0].toNat : Int) == 48) = false) := by
          by_cases q : 1 < s.size
          · right; refine ⟨by simp; omega, ?_⟩
            rw [beq_eq_false_iff_ne]; intro e; exact h1 ⟨q, by omega⟩
          · left; simp; omega
        have HSZ := Lib.hid hsz
        clear hsz h1
        rcases hcases with hd1 | ⟨hd1, hc0⟩
        · go_enter Tryz.func179, Tryz.ntmps179
          go_wp2_with fail
          go_loop [4, 5, 25, 26, 27, 28, 29, 30, 31, 32, 33, 34, 35, 36, 37, 38, 39, 40, 41, 42, 43, 44, 45, 46] (fun nn _ i _ _ _ _ _ _ _ _ _ _ _ _ _ _ _ _ _ _ _ _ _ => ∃ k : Nat, k ≤ s.size ∧ i = .int .i64 k ∧ nn = .int .i64 (numL ((bl s).take k) : Int) ∧ Hid (((bl s).take k).all isD = true)) (fun _ _ i _ _ _ _ _ _ _ _ _ _ _ _ _ _ _ _ _ _ _ _ _ => s.size - (intOf i).toNat)
          case atStart => exact ⟨0, Nat.zero_le _, rfl, rfl, rfl⟩
          case round =>
            obtain ⟨k, hk, rfl, rfl, hh⟩ := hrel
            by_cases hlt : k < s.size
            · have HS := Lib.hid (decT_succ s k hlt)
              have HST : Hid (((bl s).take (k + 1)).all isD = false → (bl s).all isD = false) := all_stop _ _
              have hk1 : (k : Int) < (s.size : Int) := by omega
              have hk2 : (0 : Int) ≤ (k : Int) := by omega
              have hb1 := numL_lt ((bl s).take k) hh.out
              have hb2 : numL ((bl s).take k) < 10000000 := Nat.lt_of_lt_of_le hb1 (show 10 ^ ((bl s).take k).length ≤ 10 ^ 7 from Nat.pow_le_pow_right (by decide) (by rw [List.length_take]; omega))
              have hcb := s[k].toNat_lt
              generalize hnv : numL ((bl s).take k) = nv at *
              have HC : Hid (numL ((bl s).take (k + 1)) = 10 * nv + (s[k].toNat - 48)) := HS.out.2
              have HA : Hid (((bl s).take (k + 1)).all isD = (((bl s).take k).all isD && (!decide ((s[k].toNat : Int) < 48) && !decide (57 < (s[k].toNat : Int))))) := HS.out.1
              clear HS hb1
              generalize hcn : s[k].toNat = cn at *
              cases hx : decide ((cn : Int) < 48) with
              | true =>
                have HF : Hid ((bl s).all isD = false) := HST.out (by rw [HA.out, hx]; simp)
                go_wp2_with fail
                go_ret2
                exact ⟨by unfold decR2; rw [HN.out, HF.out]; rfl, rfl⟩
              | false =>
                cases hy : decide (57 < (cn : Int)) with
                | true =>
                  have HF : Hid ((bl s).all isD = false) := HST.out (by rw [HA.out, hy]; simp)
                  go_wp2_with fail
                  go_ret2
                  exact ⟨by unfold decR2; rw [HN.out, HF.out]; rfl, rfl⟩
                | false =>
                  have HF : Hid (((bl s).take (k + 1)).all isD = true) := by show _ = _; rw [HA.out, hx, hy, hh.out]; rfl
                  have hr1 : 48 ≤ cn := by have := of_decide_eq_false hx; omega
                  have hr2 : cn ≤ 57 := by have := of_decide_eq_false hy; omega
                  have w1 : IntKind.i64.wrap (10 * (nv : Int)) = 10 * (nv : Int) := by rw [IntKind.wrap_i64]; omega
                  have w2 : IntKind.u8.wrap ((cn : Int) - 48) = ((cn - 48 : Nat) : Int) := by rw [IntKind.wrap_u8]; omega
                  have w3 : IntKind.i64.wrap (10 * (nv : Int) + ((cn - 48 : Nat) : Int)) = ((10 * nv + (cn - 48) : Nat) : Int) := by rw [IntKind.wrap_i64]; omega
                  have w4 : IntKind.i64.wrap ((cn - 48 : Nat) : Int) = ((cn - 48 : Nat) : Int) := by rw [IntKind.wrap_i64]; omega
                  generalize hq : cn - 48 = q at *
                  go_wp2_with fail
                  go_round
                  case rel => exact ⟨k + 1, by omega, by go_num, by rw [HC.out]; first | rfl | (congr 1; omega), HF.out⟩
                  case measure => simp [intOf]; omega
            · have hk1 : ¬ (k : Int) < (s.size : Int) := by omega
              have HF : Hid ((bl s).take k = bl s) := List.take_of_length_le (by rw [HSZ.out]; omega)
              clear HSZ
              go_wp2_with fail
              go_ret2
              have h2 := hh.out
              rw [HF.out] at h2
              refine ⟨?_, rfl⟩
              unfold decR2
              rw [HN.out, h2, HF.out]; rfl
        · go_enter Tryz.func179, Tryz.ntmps179
          go_wp2_with fail
          go_loop [4, 5, 25, 26, 27, 28, 29, 30, 31, 32, 33, 34, 35, 36, 37, 38, 39, 40, 41, 42, 43, 44, 45, 46] (fun nn _ i _ _ _ _ _ _ _ _ _ _ _ _ _ _ _ _ _ _ _ _ _ => ∃ k : Nat, k ≤ s.size ∧ i = .int .i64 k ∧ nn = .int .i64 (numL ((bl s).take k) : Int) ∧ Hid (((bl s).take k).all isD = true)) (fun _ _ i _ _ _ _ _ _ _ _ _ _ _ _ _ _ _ _ _ _ _ _ _ => s.size - (intOf i).toNat)
          case atStart => exact ⟨0, Nat.zero_le _, rfl, rfl, rfl⟩
          case round =>
            obtain ⟨k, hk, rfl, rfl, hh⟩ := hrel
            by_cases hlt : k < s.size
            · have HS := Lib.hid (decT_succ s k hlt)
              have HST : Hid (((bl s).take (k + 1)).all isD = false → (bl s).all isD = false) := all_stop _ _
              have hk1 : (k : Int) < (s.size : Int) := by omega
              have hk2 : (0 : Int) ≤ (k : Int) := by omega
              have hb1 := numL_lt ((bl s).take k) hh.out
              have hb2 : numL ((bl s).take k) < 10000000 := Nat.lt_of_lt_of_le hb1 (show 10 ^ ((bl s).take k).length ≤ 10 ^ 7 from Nat.pow_le_pow_right (by decide) (by rw [List.length_take]; omega))
              have hcb := s[k].toNat_lt
              generalize hnv : numL ((bl s).take k) = nv at *
              have HC : Hid (numL ((bl s).take (k + 1)) = 10 * nv + (s[k].toNat - 48)) := HS.out.2
              have HA : Hid (((bl s).take (k + 1)).all isD = (((bl s).take k).all isD && (!decide ((s[k].toNat : Int) < 48) && !decide (57 < (s[k].toNat : Int))))) := HS.out.1
              clear HS hb1
              generalize hcn : s[k].toNat = cn at *
              cases hx : decide ((cn : Int) < 48) with
              | true =>
                have HF : Hid ((bl s).all isD = false) := HST.out (by rw [HA.out, hx]; simp)
                go_wp2_with fail
                go_ret2
                exact ⟨by unfold decR2; rw [HN.out, HF.out]; rfl, rfl⟩
              | false =>
                cases hy : decide (57 < (cn : Int)) with
                | true =>
                  have HF : Hid ((bl s).all isD = false) := HST.out (by rw [HA.out, hy]; simp)
                  go_wp2_with fail
                  go_ret2
                  exact ⟨by unfold decR2; rw [HN.out, HF.out]; rfl, rfl⟩
                | false =>
                  have HF : Hid (((bl s).take (k + 1)).all isD = true) := by show _ = _; rw [HA.out, hx, hy, hh.out]; rfl
                  have hr1 : 48 ≤ cn := by have := of_decide_eq_false hx; omega
                  have hr2 : cn ≤ 57 := by have := of_decide_eq_false hy; omega
                  have w1 : IntKind.i64.wrap (10 * (nv : Int)) = 10 * (nv : Int) := by rw [IntKind.wrap_i64]; omega
                  have w2 : IntKind.u8.wrap ((cn : Int) - 48) = ((cn - 48 : Nat) : Int) := by rw [IntKind.wrap_u8]; omega
                  have w3 : IntKind.i64.wrap (10 * (nv : Int) + ((cn - 48 : Nat) : Int)) = ((10 * nv + (cn - 48) : Nat) : Int) := by rw [IntKind.wrap_i64]; omega
                  have w4 : IntKind.i64.wrap ((cn - 48 : Nat) : Int) = ((cn - 48 : Nat) : Int) := by rw [IntKind.wrap_i64]; omega
                  generalize hq : cn - 48 = q at *
                  go_wp2_with fail
                  go_round
                  case rel => exact ⟨k + 1, by omega, by go_num, by rw [HC.out]; first | rfl | (congr 1; omega), HF.out⟩
                  case measure => simp [intOf]; omega
            · have hk1 : ¬ (k : Int) < (s.size : Int) := by omega
              have HF : Hid ((bl s).take k = bl s) := List.take_of_length_le (by rw [HSZ.out]; omega)
              clear HSZ
              go_wp2_with fail
              go_ret2
              have h2 := hh.out
              rw [HF.out] at h2
              refine ⟨?_, rfl⟩
              unfold decR2
              rw [HN.out, h2, HF.out]; rfl
end Go.Proofs.YteknmbijodbfoaaGreatDoor

namespace Go.Proofs.YteknmbijodbfoaaGreatDoor
open Go.RowKit

theorem Env.grown {w w' : World} {b : Nat} (h : Env w) (hg : w.grownBy w' (some b)) (hb : 5 < b) : Env w' := by
  obtain ⟨m, hm⟩ := h
  exact ⟨m, grown_cell hg hm (by simp; omega)⟩
theorem fail_zero (p : PS) (a : Nat) : p.fail a 0 = p := by unfold PS.fail; rw [if_neg (by simp)]
theorem next_false {p : PS} {n : Nat} (h : (p.next n).2.2 = false) : (p.next n).2.1 = [] := by
  unfold PS.next at *
  by_cases h0 : p.e ≠ 0
  · rw [if_pos h0]
  · rw [if_neg h0] at h ⊢
    cases hr : p.rest with
    | nil => rfl
    | cons w ws => rw [hr] at h; cases h
set_option maxRecDepth 100000 in
set_option maxHeartbeats 2000000 in
theorem groupC (b : Nat) (s : ByteArray) (p : PS) (w : World) (h : PSAt w b s p) (hok : PSok (bl s) p) (hs : s.size ≤ 1000000) (hE : Env w) (hb : 5 < b) :
    Calls Tryz.prog 150 #[.pointer (some ⟨b, 0, none⟩)] w (PSPost b s (p.groupP s.size).1 w (.string (bs (p.groupP s.size).2))) := by
  have HN := Lib.hid (nextC b s p w h hok hs hE hb)
  have HE := Lib.hid hE
  have HF : Hid (p.groupP s.size = if (p.next s.size).2.2 = true then ((p.next s.size).1.fail (p.next s.size).1.start (groupE (p.next s.size).2.1), (p.next s.size).2.1) else ((p.next s.size).1, [])) := rfl
  have HX : Hid ((p.next s.size).2.2 = false → (p.next s.size).2.1 = []) := next_false
  clear h hok hE
  generalize p.next s.size = q at *
  obtain ⟨p1, x, ok⟩ := q
  simp only at HN HF HX
  cases ok with
  | false =>
    have hx := HX.out rfl
    subst hx
    go_enter Tryz.func150, Tryz.ntmps150
    go_wp2_with fail
    refine HN.out.mono ?_
    rintro e w1 ⟨rfl, h1, hg1⟩
    have H1 := Lib.hid h1; have HG1 := Lib.hid hg1
    clear h1 hg1
    go_wp2_with fail
    go_ret
    exact ⟨by rw [HF.out]; rfl, by rw [HF.out]; exact H1.out, HG1.out⟩
  | true =>
    by_cases hn : nameErr (bs x) = 0
    · have HE0 : Hid (groupE x = 0) := by show _ = _; unfold groupE; rw [if_neg (by simp [hn])]
      go_enter Tryz.func150, Tryz.ntmps150
      go_wp2_with fail
      refine HN.out.mono ?_
      rintro e w1 ⟨rfl, h1, hg1⟩
      have H1 := Lib.hid h1; have HG1 := Lib.hid hg1
      clear h1 hg1
      go_wp2_with (go_at_call 97; refine (checkName _ _ (HE.out.grown HG1.out hb)).mono ?_; rintro e w2 ⟨rfl, hg2⟩; rw [hn])
      have H2 := Lib.hid (H1.out.gr hg2); have HG2 := Lib.hid (grown_trans HG1.out (grown_gr hg2))
      go_ret
      exact ⟨by rw [HF.out]; rfl, by rw [HF.out, if_pos trivial, HE0.out]; rw [fail_zero]; exact H2.out, HG2.out⟩
    · have HE0 : Hid (groupE x = 12) := by show _ = _; unfold groupE; rw [if_pos hn]
      have hn1 : (nameErr (bs x) != 0) = true := by simp [hn]
      go_enter Tryz.func150, Tryz.ntmps150
      go_wp2_with fail
      refine HN.out.mono ?_
      rintro e w1 ⟨rfl, h1, hg1⟩
      have H1 := Lib.hid h1; have HG1 := Lib.hid hg1
      clear h1 hg1
      go_wp2_with fail
      refine (checkName _ _ (HE.out.grown HG1.out hb)).mono ?_
      rintro e w2 ⟨rfl, hg2⟩
      have h2 := H1.out.gr hg2
      obtain ⟨d0, d1, d2, d3, d4, _, hz⟩ := h2.facts
      have H2 := Lib.hid h2; have HG2 := Lib.hid (grown_trans HG1.out (grown_gr hg2))
      have HFC := Lib.hid (failC b s p1 p1.start 12 w2 h2)
      clear h2 hg2 hn
      generalize nameErr (bs x) = ne at *
      go_wp2_with fail
      refine HFC.out.mono ?_
      rintro e w3 ⟨rfl, h3, hg3⟩
      have H3 := Lib.hid h3; have HG3 := Lib.hid (grown_trans HG2.out hg3)
      clear h3 hg3 d0 d1 d2 d3 d4 hz
      go_wp2_with fail
      go_ret
      exact ⟨by rw [HF.out]; rfl, by rw [HF.out, if_pos trivial, HE0.out]; exact H3.out, HG3.out⟩
set_option maxRecDepth 100000 in
set_option maxHeartbeats 2000000 in
theorem numberC (b : Nat) (s : ByteArray) (p : PS) (lo hi : Int) (w : World) (h : PSAt w b s p) (hok : PSok (bl s) p) (hs : s.size ≤ 1000000) (hE : Env w) (hb : 5 < b) :
    Calls Tryz.prog 152 #[.pointer (some ⟨b, 0, none⟩), .int .i64 lo, .int .i64 hi] w (PSPost b s (p.numP s.size lo hi).1 w (.int .i64 (p.numP s.size lo hi).2)) := by
  have HN := Lib.hid (nextC b s p w h hok hs hE hb)
  have HF : Hid (p.numP s.size lo hi = if (p.next s.size).2.2 = true then ((p.next s.size).1.fail (p.next s.size).1.start (numE lo hi (p.next s.size).2.1), numV (p.next s.size).2.1) else ((p.next s.size).1, 0)) := rfl
  clear h hok hE
  generalize p.next s.size = q at *
  obtain ⟨p1, x, ok⟩ := q
  simp only at HN HF
  cases ok with
  | false =>
    go_enter Tryz.func152, Tryz.ntmps152
    go_wp2_with fail
    refine HN.out.mono ?_
    rintro e w1 ⟨rfl, h1, hg1⟩
    have H1 := Lib.hid h1; have HG1 := Lib.hid hg1
    clear h1 hg1
    go_wp2_with fail
    go_ret
    exact ⟨by rw [HF.out]; rfl, by rw [HF.out]; exact H1.out, HG1.out⟩
  | true =>
    have HD : Hid (∀ W, Calls Tryz.prog 179 #[.string (bs x)] W fun e w' => e = .returned (.tuple #[.int .i64 (numV x), .bool (numB x)]) ∧ W = w') := decimalC (bs x)
    have HV : Hid (numE lo hi x = if numB x = false then 3 else if numV x < lo ∨ hi < numV x then 2 else 0) := by
      show _ = _
      unfold numE numV
      cases numB x <;> rfl
    generalize numV x = nv at *
    cases hnb : numB x with
    | false =>
      rw [hnb] at HD
      have HE0 : Hid (numE lo hi x = 3) := by show _ = _; rw [HV.out, if_pos hnb]
      go_enter Tryz.func152, Tryz.ntmps152
      go_wp2_with fail
      refine HN.out.mono ?_
      rintro e w1 ⟨rfl, h1, hg1⟩
      have HFC := Lib.hid (failC b s p1 p1.start 3 w1 h1)
      obtain ⟨d0, d1, d2, d3, d4, _, hz⟩ := h1.facts
      have HG1 := Lib.hid hg1
      clear h1 hg1
      go_wp2_with (go_at_call 179; refine (HD.out _).mono ?_; rintro e w' ⟨rfl, rfl⟩)
      refine HFC.out.mono ?_
      rintro e w3 ⟨rfl, h3, hg3⟩
      have H3 := Lib.hid h3; have HG3 := Lib.hid (grown_trans HG1.out hg3)
      clear h3 hg3 d0 d1 d2 d3 d4 hz
      go_wp2_with fail
      go_ret
      exact ⟨by rw [HF.out]; rfl, by rw [HF.out, if_pos trivial, HE0.out]; exact H3.out, HG3.out⟩
    | true =>
      rw [hnb] at HD
      by_cases hr : nv < lo ∨ hi < nv
      · have HE0 : Hid (numE lo hi x = 2) := by show _ = _; rw [HV.out, if_neg (by rw [hnb]; decide), if_pos hr]
        go_enter Tryz.func152, Tryz.ntmps152
        go_wp2_with fail
        refine HN.out.mono ?_
        rintro e w1 ⟨rfl, h1, hg1⟩
        have HFC := Lib.hid (failC b s p1 p1.start 2 w1 h1)
        obtain ⟨d0, d1, d2, d3, d4, _, hz⟩ := h1.facts
        have HG1 := Lib.hid hg1
        clear h1 hg1
        have hor : decide (nv < lo) = true ∨ (decide (nv < lo) = false ∧ decide (hi < nv) = true) := by
          rcases Decidable.em (nv < lo) with q | q
          · left; simpa using q
          · right; exact ⟨by simpa using q, by simp; omega⟩
        clear hr
        rcases hor with q1 | ⟨q1, q2⟩
        all_goals
          go_wp2_with (go_at_call 179; refine (HD.out _).mono ?_; rintro e w' ⟨rfl, rfl⟩)
          refine HFC.out.mono ?_
          rintro e w3 ⟨rfl, h3, hg3⟩
          have H3 := Lib.hid h3; have HG3 := Lib.hid (grown_trans HG1.out hg3)
          clear h3 hg3 d0 d1 d2 d3 d4 hz
          go_wp2_with fail
          go_ret
          exact ⟨by rw [HF.out]; rfl, by rw [HF.out, if_pos trivial, HE0.out]; exact H3.out, HG3.out⟩
      · have HE0 : Hid (numE lo hi x = 0) := by show _ = _; rw [HV.out, if_neg (by rw [hnb]; decide), if_neg hr]
        have q1 : decide (nv < lo) = false := by simp; omega
        have q2 : decide (hi < nv) = false := by simp; omega
        clear hr
        go_enter Tryz.func152, Tryz.ntmps152
        go_wp2_with fail
        refine HN.out.mono ?_
        rintro e w1 ⟨rfl, h1, hg1⟩
        have H1 := Lib.hid h1; have HG1 := Lib.hid hg1
        clear h1 hg1
        go_wp2_with (go_at_call 179; refine (HD.out _).mono ?_; rintro e w' ⟨rfl, rfl⟩)
        go_ret
        exact ⟨by rw [HF.out]; rfl, by rw [HF.out, if_pos trivial, HE0.out]; rw [fail_zero]; exact H1.out, HG1.out⟩
end Go.Proofs.YteknmbijodbfoaaGreatDoor

namespace Go.Proofs.YteknmbijodbfoaaGreatDoor
open Go.RowKit

theorem grown_new {w w1 : World} {row : Option Nat} (h : w.grownBy w1 row) {k o : Nat} (hk : w.heap.size ≤ k) (u : Value) : w.grownBy (w1.setCell ⟨k, o, none⟩ u) row :=
  ⟨h.os, h.tape, h.output, by simpa using h.size, fun i hi hn => (heap_setCell_other w1 ⟨k, o, none⟩ i u (by show i ≠ k; omega)).trans (h.block i hi hn)⟩
theorem grown_sets {w : World} {row : Option Nat} {b : Nat} (hb : w.heap.size ≤ b) : ∀ (l : List Value) (k : Nat) (w1 : World), w.grownBy w1 row → w.grownBy (w1.setCells b k l) row
  | [], _, _, h => h
  | v :: l, k, w1, h => grown_sets hb l (k + 1) (w1.setCell ⟨b, k, none⟩ v) (grown_new h hb v)
theorem sets_block (b : Nat) (t : TypeId) (post : List Value) : ∀ (l pre mid : List Value) (w : World), mid.length = l.length → w.heap[b]? = some (.cells (pre ++ (mid ++ post)).toArray t (0, 0)) →
    (w.setCells b pre.length l).heap[b]? = some (.cells (pre ++ (l ++ post)).toArray t (0, 0))
  | [], pre, mid, w, h, hb => by obtain rfl : mid = [] := List.length_eq_zero_iff.1 h; exact hb
  | v :: l, pre, mid, w, h, hb => by
    obtain ⟨p, mid', rfl⟩ : ∃ p q, mid = p :: q := by cases mid with | nil => simp at h | cons p q => exact ⟨p, q, rfl⟩
    have h1 := heap_setCell_same w b pre.length _ t v hb
    have e : (pre ++ (p :: mid' ++ post)).toArray.setIfInBounds pre.length v = ((pre ++ [v]) ++ (mid' ++ post)).toArray := by simp
    rw [e] at h1
    have := sets_block b t post l (pre ++ [v]) mid' (w.setCell ⟨b, pre.length, none⟩ v) (by simpa using h) h1
    simp only [List.length_append, List.length_cons, List.length_nil, Nat.zero_add, List.append_assoc, List.cons_append, List.nil_append] at this ⊢
    exact this
theorem sets_whole {w : World} {b : Nat} {t : TypeId} {z cs : List Value} (h : w.heap[b]? = some (.cells z.toArray t (0, 0))) (hl : z.length = cs.length) : (w.setCells b 0 cs).heap[b]? = some (.cells cs.toArray t (0, 0)) := by
  have := sets_block b t [] cs [] z w hl (by simpa using h)
  simpa using this
theorem sets_other {b : Nat} {i : Nat} (hi : i ≠ b) : ∀ (l : List Value) (k : Nat) (w : World), (w.setCells b k l).heap[i]? = w.heap[i]?
  | [], _, _ => rfl
  | v :: l, k, w => (sets_other hi l (k + 1) (w.setCell ⟨b, k, none⟩ v)).trans (heap_setCell_other w ⟨b, k, none⟩ i v hi)
theorem sets_size (b : Nat) : ∀ (l : List Value) (k : Nat) (w : World), (w.setCells b k l).heap.size = w.heap.size
  | [], _, _ => rfl
  | v :: l, k, w => (sets_size b l (k + 1) (w.setCell ⟨b, k, none⟩ v)).trans (by simp)
theorem PSAt.other {w w' : World} {b : Nat} {s : ByteArray} {p : PS} (h : PSAt w b s p) (hb : w'.heap[b]? = w.heap[b]?) : PSAt w' b s p := hb.trans h
section
variable {w : World} {b : Nat} {c : Cm} {v : Value} {t : TypeId}
theorem put_cm (h : w.heap[b]? = some (.cells (cmC c v).toArray t (0, 0))) (k : Nat) (x : Value) {c' : Cm} {v' : Value} (e : (cmC c v).set k x = cmC c' v') : (w.setCell ⟨b, k, none⟩ x).heap[b]? = some (.cells (cmC c' v').toArray t (0, 0)) := by
  rw [heap_setCell_same w b k _ t x h, ← e]; simp
theorem put_group (h : w.heap[b]? = some (.cells (cmC c v).toArray t (0, 0))) (g : ByteArray) : (w.setCell ⟨b, 33, none⟩ (.string g)).heap[b]? = some (.cells (cmC { c with group := g } v).toArray t (0, 0)) := put_cm h 33 _ (by rw [cm_set _ _ _ _ (by decide)]; rfl)
theorem put_version (h : w.heap[b]? = some (.cells (cmC c v).toArray t (0, 0))) (n : Int) : (w.setCell ⟨b, 34, none⟩ (.int .i64 n)).heap[b]? = some (.cells (cmC { c with version := n } v).toArray t (0, 0)) := put_cm h 34 _ (by rw [cm_set _ _ _ _ (by decide)]; rfl)
theorem put_moderated (h : w.heap[b]? = some (.cells (cmC c v).toArray t (0, 0))) (m : Bool) : (w.setCell ⟨b, 35, none⟩ (.bool m)).heap[b]? = some (.cells (cmC { c with moderated := m } v).toArray t (0, 0)) := put_cm h 35 _ (by rw [cm_set _ _ _ _ (by decide)]; rfl)
theorem put_mods (h : w.heap[b]? = some (.cells (cmC c v).toArray t (0, 0))) (v' : Value) : (w.setCell ⟨b, 36, none⟩ v').heap[b]? = some (.cells (cmC c v').toArray t (0, 0)) := put_cm h 36 _ (by rw [cm_set _ _ _ _ (by decide)]; rfl)
theorem put_text (h : w.heap[b]? = some (.cells (cmC c v).toArray t (0, 0))) (g : ByteArray) : (w.setCell ⟨b, 37, none⟩ (.string g)).heap[b]? = some (.cells (cmC { c with text := g } v).toArray t (0, 0)) := put_cm h 37 _ (by rw [cm_set _ _ _ _ (by decide)]; rfl)
theorem put_number (h : w.heap[b]? = some (.cells (cmC c v).toArray t (0, 0))) (n : Int) : (w.setCell ⟨b, 38, none⟩ (.int .i64 n)).heap[b]? = some (.cells (cmC { c with number := n } v).toArray t (0, 0)) := put_cm h 38 _ (by rw [cm_set _ _ _ _ (by decide)]; rfl)
theorem free_block {cs : List Value} (h : w.heap[b]? = some (.cells cs.toArray t (0, 0))) (k : Nat) : w.frozen? ⟨b, k, none⟩ = false := by simp [World.frozen?, h]
end
end Go.Proofs.YteknmbijodbfoaaGreatDoor

namespace Go.Proofs.YteknmbijodbfoaaGreatDoor
open Go.RowKit

def read4 (n : Nat) (p : PS) : PS × Cm := (((p.groupP n).1.numP n 0 1000000).1, { cm0 4 with group := bs (p.groupP n).2, version := ((p.groupP n).1.numP n 0 1000000).2 })
/-- What a reader of a command leaves. -/
def RdPost (b : Nat) (s : ByteArray) (p : PS) (w : World) (c : Cm) (e : Ending) (w' : World) : Prop := ∃ a n k, e = .returned (.agg (cmC c (.slice a n k)).toArray) ∧ AutsAt w' (.slice a n k) c.mods ∧ (∀ x, a = some x → w.heap.size ≤ x.block) ∧ PSAt w' b s p ∧ w.grownBy w' (some b)
set_option maxRecDepth 100000 in
set_option maxHeartbeats 2000000 in
theorem form4C (b : Nat) (s : ByteArray) (p : PS) (w : World) (h : PSAt w b s p) (hok : PSok (bl s) p) (hs : s.size ≤ 1000000) (hE : Env w) (hb : 5 < b) :
    Calls Tryz.prog 155 #[.pointer (some ⟨b, 0, none⟩)] w (RdPost b s (read4 s.size p).1 w (read4 s.size p).2) := by
  have hz := h.facts.2.2.2.2.2.2
  have g0 := ((Gr.refl w).alloc (.cells (cmC (cm0 0) nilV).toArray 177)).alloc (.cells (cmC (cm0 4) nilV).toArray 177)
  have HG := Lib.hid (groupC b s p _ (h.gr g0) hok hs (hE.gr g0) hb)
  have B0 := Lib.hid (heap_alloc2_old w (.cells (cmC (cm0 0) nilV).toArray 177) (.cells (cmC (cm0 4) nilV).toArray 177))
  have B1 := Lib.hid (heap_alloc2_new w (.cells (cmC (cm0 0) nilV).toArray 177) (.cells (cmC (cm0 4) nilV).toArray 177))
  have G0 := Lib.hid (grown_gr (row := some b) g0)
  have HE := Lib.hid hE; have HOK := Lib.hid (hok.group s.size)
  have HR : Hid (read4 s.size p = (((p.groupP s.size).1.numP s.size 0 1000000).1, { cm0 4 with group := bs (p.groupP s.size).2, version := ((p.groupP s.size).1.numP s.size 0 1000000).2 })) := rfl
  clear h hok hE g0
  generalize p.groupP s.size = q at *
  obtain ⟨p1, g⟩ := q
  simp only at HG HR HOK
  go_enter Tryz.func155, Tryz.ntmps155
  go_wp2_with fail
  refine HG.out.mono ?_
  rintro e w1 ⟨rfl, h1, hg1⟩
  have b0 := grown_block hg1 B0.out (by simp; omega)
  have b1 := grown_block hg1 B1.out (by simp; omega)
  have f1 : ∀ k, w1.frozen? ⟨w.heap.size + 1, k, none⟩ = false := fun k => by simp [World.frozen?, b1]
  have f133 := f1 33
  obtain ⟨c0, c33, c34, c35, c36, c37, c38, c39, r1, q1, r39, q39, r40, q40, r0, q0, z1⟩ := cm_facts b1
  have H1 := Lib.hid h1; have HG1 := Lib.hid (grown_trans G0.out hg1); have BB0 := Lib.hid b0; have BB1 := Lib.hid b1
  clear h1 hg1 b0 b1 f1 B0 B1 G0
  go_wp2_with fail
  have k1 := put_group BB1.out (bs g)
  have k0 := (heap_setCell_other w1 ⟨w.heap.size + 1, 33, none⟩ w.heap.size (.string (bs g)) (by show w.heap.size ≠ w.heap.size + 1; omega)).trans BB0.out
  have h2 := H1.out.other (heap_setCell_other w1 ⟨w.heap.size + 1, 33, none⟩ b (.string (bs g)) (by show b ≠ w.heap.size + 1; omega))
  have hg2 := grown_new HG1.out (k := w.heap.size + 1) (o := 33) (by omega) (.string (bs g))
  generalize w1.setCell ⟨w.heap.size + 1, 33, none⟩ (.string (bs g)) = W2 at *
  have HN := Lib.hid (numberC b s p1 0 1000000 W2 h2 HOK.out hs (HE.out.grown hg2 hb) hb)
  have HG2 := Lib.hid hg2; have KK1 := Lib.hid k1; have KK0 := Lib.hid k0
  clear c0 c33 c34 c35 c36 c37 c38 c39 r1 q1 r39 q39 r40 q40 r0 q0 z1 f133 k1 k0 h2 hg2
  refine HN.out.mono ?_
  rintro e w3 ⟨rfl, h3, hg3⟩
  have b1 := grown_block hg3 KK1.out (by simp; omega)
  have b0 := grown_block hg3 KK0.out (by simp; omega)
  have f134 := free_block b1 34
  obtain ⟨c0, c33, c34, c35, c36, c37, c38, c39, r1, q1, r39, q39, r40, q40, r0, q0, z1⟩ := cm_facts b1
  have H3 := Lib.hid h3; have HG3 := Lib.hid (grown_trans HG2.out hg3); have BC0 := Lib.hid b0; have BC1 := Lib.hid b1
  generalize p1.numP s.size 0 1000000 = q at *
  obtain ⟨p2, nv⟩ := q
  have b14 := put_version b1 nv
  have b04 := (heap_setCell_other w3 ⟨w.heap.size + 1, 34, none⟩ w.heap.size (.int .i64 nv) (by show w.heap.size ≠ w.heap.size + 1; omega)).trans b0
  have h4 := Lib.hid (H3.out.other (heap_setCell_other w3 ⟨w.heap.size + 1, 34, none⟩ b (.int .i64 nv) (by show b ≠ w.heap.size + 1; omega)))
  have hg4 := Lib.hid (grown_new HG3.out (k := w.heap.size + 1) (o := 34) (by omega) (.int .i64 nv))
  obtain ⟨-, -, -, -, -, -, -, -, -, -, -, -, -, -, r0', q0', z1'⟩ := cm_facts b14
  have f0 := freeRow_block b04 0 56
  have u0 := hasRow_block b04 0 56 (by rw [cmC_length]; decide)
  have B04 := Lib.hid b04
  clear h3 hg3 b0 b1 b14 b04 c0 c33 c35 c36 c37 c38 c39 r1 q1 r39 q39 r40 q40 r0 q0
  go_wp2_with fail
  have hw := sets_whole (cs := cmC { cm0 4 with group := bs g, version := nv } nilV) B04.out (by rw [cmC_length, cmC_length])
  have h5 := h4.out.other (sets_other (b := w.heap.size) (i := b) (by omega) (cmC { cm0 4 with group := bs g, version := nv } nilV) 0 _)
  have hg5 := grown_sets (b := w.heap.size) (Nat.le_refl _) (cmC { cm0 4 with group := bs g, version := nv } nilV) 0 _ hg4.out
  refine bodyPost_ret (v := .agg (cmC { cm0 4 with group := bs g, version := nv } nilV).toArray) (results_cell_row rfl _ _ w.heap.size _ _ _ _ rfl hw Tryz.underlying177 rfl (by rw [List.size_toArray, cmC_length]; kernel_rfl)) rfl ?_
  rw [HR.out]
  exact ⟨none, 0, 0, rfl, nil_auts _, (fun x hx => by cases hx), h5, hg5⟩
end Go.Proofs.YteknmbijodbfoaaGreatDoor

namespace Go.Proofs.YteknmbijodbfoaaGreatDoor
open Go.RowKit

theorem ba_beq (s t : ByteArray) : (s == t) = true ↔ s = t := by
  obtain ⟨x⟩ := s; obtain ⟨y⟩ := t
  show (x == y) = true ↔ _
  rw [beq_iff_eq]
  exact ⟨fun h => by rw [h], fun h => by injection h⟩
theorem ba_ne {s t : ByteArray} (h : s ≠ t) : (s == t) = false := by
  cases e : s == t with
  | false => rfl
  | true => exact absurd ((ba_beq s t).1 e) h
/-- Entries, in the order of their coming. -/
def entL (L : List (ByteArray × Value)) (n : Nat) : List MapEntry := (L.zipIdx n).map fun x => { key := .string x.1.1, val := x.1.2, born := x.2 }
theorem entL_cons (k : ByteArray) (v : Value) (L : List (ByteArray × Value)) (n : Nat) : entL ((k, v) :: L) n = { key := .string k, val := v, born := n } :: entL L (n + 1) := by simp [entL, List.zipIdx_cons]
theorem entL_snoc (L : List (ByteArray × Value)) (k : ByteArray) (v : Value) (n : Nat) : entL (L ++ [(k, v)]) n = entL L n ++ [{ key := .string k, val := v, born := n + L.length }] := by
  simp [entL, List.zipIdx_append]
theorem find_none : ∀ (L : List (ByteArray × Value)) (s : ByteArray) (n i : Nat), (∀ e ∈ L, e.1 ≠ s) → Instr.findNow .string (.string s) (entL L n) i = some none
  | [], _, _, _, _ => rfl
  | (k, v) :: L, s, n, i, h => by
    have hk : (s == k) = false := ba_ne fun e => h (k, v) (by simp) e.symm
    rw [entL_cons, Instr.findNow]
    simp only [Instr.sameNow, hk]
    exact find_none L s (n + 1) (i + 1) (fun e he => h e (by simp [he]))
theorem find_some : ∀ (L : List (ByteArray × Value)) (s : ByteArray) (v : Value) (n i : Nat), (s, v) ∈ L → (L.map (·.1)).Nodup → ∃ j, Instr.findNow .string (.string s) (entL L n) i = some (some (j, v))
  | [], _, _, _, _, h, _ => by cases h
  | (k, u) :: L, s, v, n, i, h, hn => by
    rw [entL_cons, Instr.findNow]
    by_cases hk : s = k
    · subst hk
      have : (s == s) = true := (ba_beq s s).2 rfl
      simp only [Instr.sameNow, this]
      rcases List.mem_cons.1 h with e | e
      · injection e with _ e2; rw [e2]; exact ⟨i, rfl⟩
      · rw [List.map_cons, List.nodup_cons] at hn
        exact absurd (List.mem_map_of_mem (f := (·.1)) e) hn.1
    · have hkk : (s == k) = false := ba_ne hk
      simp only [Instr.sameNow, hkk]
      refine find_some L s v (n + 1) (i + 1) ?_ (List.nodup_cons.1 hn).2
      rcases List.mem_cons.1 h with e | e
      · injection e with e1 _; exact absurd e1 hk
      · exact e
section
variable {P : Program} {mty kt et : TypeId} (w : World)
/-- Block w.heap.size is the map of the entries L. -/
def mapW (L : List (ByteArray × Value)) : World := w.alloc (.map (entL L 0).toArray L.length)
theorem mapW_heap (L : List (ByteArray × Value)) : (mapW w L).heap[w.heap.size]? = some (.map (entL L 0).toArray L.length) := heap_alloc_new w _
theorem run_put (hm : P.underlying mty = some (.map kt et)) (hk : P.underlying kt = some .string) (L : List (ByteArray × Value)) (s : ByteArray) (v : Value) (h : ∀ e ∈ L, e.1 ≠ s) :
    (Instr.mapUpdate mty (.map (some w.heap.size)) (.string s) v).run P (mapW w L) = .ok () (mapW w (L ++ [(s, v)])) := by
  have hf := find_none L s 0 0 h
  have hb := mapW_heap w L
  have hc : (Instr.checkKey false 10000 kt (.string s)).run P (mapW w L) = .ok () (mapW w L) := MapKept.run_checkKey (k := .string s) hk (by simp [MapKept.IsKey]) false 9999
  have hw : ({ mapW w L with heap := (mapW w L).heap.setIfInBounds w.heap.size (.map ((entL L 0).toArray.push { key := .string s, val := v, born := L.length }) (L.length + 1)) } : World) = mapW w (L ++ [(s, v)]) := by
    have e : (entL (L ++ [(s, v)]) 0).toArray = (entL L 0).toArray.push { key := .string s, val := v, born := L.length } := by rw [entL_snoc, Nat.zero_add]; simp
    unfold mapW World.alloc
    rw [e, List.length_append, List.length_singleton]
    simp only [World.mk.injEq, and_true]
    apply Array.ext_getElem?
    intro i
    rw [Array.getElem?_setIfInBounds, Array.getElem?_push, Array.getElem?_push]
    by_cases hi : w.heap.size = i
    · subst hi; simp
    · rw [if_neg hi, if_neg (fun e => hi e.symm), if_neg (fun e => hi e.symm)]
  simp only [Instr.mapUpdate, Sem.run_bind, run_underlying hm, Result.andThen_ok, MapKept.run_getObj_map hb, hc]
  rw [MapKept.run_findKey hk (a := none) (by simpa using hf)]
  simp only [Result.andThen_ok]
  rw [MapKept.run_setObj_map _ hb, hw]
theorem run_get (hm : P.underlying mty = some (.map kt et)) (hk : P.underlying kt = some .string) {W : World} {r : Nat} {L : List (ByteArray × Value)} (hb : W.heap[r]? = some (.map (entL L 0).toArray L.length)) (hL : (L.map (·.1)).Nodup) (s : ByteArray) (v : Value) (h : (s, v) ∈ L) :
    (Instr.lookup mty (.map (some r)) (.string s) true).run P W = .ok (.tuple #[v, .bool true]) W := by
  obtain ⟨j, hf⟩ := find_some L s v 0 0 h hL
  have hc : ∀ b, (Instr.checkKey b 10000 kt (.string s)).run P W = .ok () W := fun b => MapKept.run_checkKey (k := .string s) hk (by simp [MapKept.IsKey]) b 9999
  simp only [Instr.lookup, Sem.run_bind, run_underlying hm, Result.andThen_ok, MapKept.run_getObj_map hb, Sem.run_pure, hc]
  rw [MapKept.run_findKey hk (a := some (j, v)) (by simpa using hf)]
  simp
theorem run_miss (hm : P.underlying mty = some (.map kt et)) (hk : P.underlying kt = some .string) {W : World} {r : Nat} {L : List (ByteArray × Value)} (hb : W.heap[r]? = some (.map (entL L 0).toArray L.length)) (s : ByteArray) (z : Value) (hz : (zeroValue et).run P W = .ok z W) (h : ∀ e ∈ L, e.1 ≠ s) :
    (Instr.lookup mty (.map (some r)) (.string s) true).run P W = .ok (.tuple #[z, .bool false]) W := by
  have hf := find_none L s 0 0 h
  have hc : ∀ b, (Instr.checkKey b 10000 kt (.string s)).run P W = .ok () W := fun b => MapKept.run_checkKey (k := .string s) hk (by simp [MapKept.IsKey]) b 9999
  simp only [Instr.lookup, Sem.run_bind, run_underlying hm, Result.andThen_ok, MapKept.run_getObj_map hb, Sem.run_pure, hc]
  rw [MapKept.run_findKey hk (a := none) (by simpa using hf)]
  simp [hz]
end
end Go.Proofs.YteknmbijodbfoaaGreatDoor

namespace Go.Proofs.YteknmbijodbfoaaGreatDoor
open Go.RowKit

noncomputable def fops : Array Oper := match Tryz.f120.body with | some (.seq _ (.seq (.region _ o _) _)) => o | _ => #[]
def keyK (k : Fin 5) : ByteArray := kindS ((k.val : Int) + 1)
def fnK (k : Fin 5) : Nat := [147, 149, 151, 155, 156].getD k.val 0
def pr (k : Fin 5) : ByteArray × Value := (keyK k, .func (.func (fnK k)) #[] #[])
theorem keyK_inj : ∀ i j : Fin 5, keyK i = keyK j → i = j := by
  intro i j h
  have : (keyK i).data.toList = (keyK j).data.toList := by rw [h]
  revert this
  revert i j
  have gen : ∀ i j : Fin 5, (keyK i).data.toList = (keyK j).data.toList → i = j := by decide +kernel
  intro i j _ h; exact gen i j h
def arr (m : Bool) (c : Nat) (b0 b1 b2 b3 b4 : Bool) : Array Bool := #[m, decide (1 ≤ c), b0, decide (2 ≤ c), b1, decide (3 ≤ c), b2, decide (4 ≤ c), b3, decide (5 ≤ c), b4, false, false]
def okS (m : Bool) (c : Nat) (b0 b1 b2 b3 b4 : Bool) (i : Nat) : Bool :=
  (i == 0 && !m) || (i == 2 * c + 1 && decide (c < 5)) || (i == 2 && m && !b0 && decide (1 ≤ c)) || (i == 4 && m && !b1 && decide (2 ≤ c)) || (i == 6 && m && !b2 && decide (3 ≤ c)) || (i == 8 && m && !b3 && decide (4 ≤ c)) || (i == 10 && m && !b4 && decide (5 ≤ c)) || (i == 11 && m && c == 5 && b0 && b1 && b2 && b3 && b4)
theorem ready_ok : ∀ (m : Bool) (c : Fin 6) (b0 b1 b2 b3 b4 : Bool), ((Region.ready .any fops (arr m c.val b0 b1 b2 b3 b4)).all (okS m c.val b0 b1 b2 b3 b4) && !(Region.ready .any fops (arr m c.val b0 b1 b2 b3 b4)).isEmpty) = true := by decide +kernel
def aOf (w : World) (m : Bool) (c : Nat) : Act := ⟨#[.map none, if m then .map (some w.heap.size) else undef, if 1 ≤ c then .string (keyK 0) else undef, if 2 ≤ c then .string (keyK 1) else undef, if 3 ≤ c then .string (keyK 2) else undef, if 4 ≤ c then .string (keyK 3) else undef, if 5 ≤ c then .string (keyK 4) else undef, undef], []⟩
def wOf (w : World) (m : Bool) (L : List (Fin 5)) : World := if m then mapW w (L.map pr) else w
section
variable {P : Program} {ops : Array Oper} {Q : Exit → Act → World → Prop} {K : Act → World → Prop}
theorem wpOp_plain {i : Nat} {o : Oper} {a : Act} {w : World} (hi : ops[i]? = some o) (hg : o.guard = none) (h : o.wp P a w K Q) : wpOp P ops Q i K a w := by
  have hw : Region.wanted o (yielded ops a.tmps) = true := by simp [Region.wanted, hg]
  unfold wpOp
  simp only [hi, hw, if_true]
  exact .inl h
theorem wp_value {o : Oper} {a : Act} {w w' : World} {v : Value} (hr : (execOp a.eval o).run P w = .ok (.value v) w') (h : K (a.put o.dst v) w') : o.wp P a w K Q := by
  unfold Oper.wp; rw [hr]; exact h
theorem wp_skip {o : Oper} {a : Act} {w w' : World} (hd : o.dst = none) (hr : (execOp a.eval o).run P w = .ok .skip w') (h : K a w') : o.wp P a w K Q := by
  unfold Oper.wp; rw [hr, Oper.upon_skip, hd]; exact h
theorem wp_enter {o : Oper} {a : Act} {w : World} {f : FuncId} {args : Array Value} {v : Value} (hr : (execOp a.eval o).run P w = .ok (.enter f args) w) (hc : Calls P f args w fun e w' => e = .returned v ∧ w = w') (h : K (a.put o.dst v) w) : o.wp P a w K Q := by
  unfold Oper.wp; rw [hr, Oper.upon_enter]
  exact hc.mono fun e w' ⟨he, hw⟩ => by subst he; subst hw; exact h
end
theorem kindEnter (args : Array Value) (w : World) : (callFunc 146 args).run Tryz.prog w = .ok (.enter 146 args) w := enters_of Tryz.func146 (by kernel_rfl) rfl args w
/-- What each operation is. -/
theorem op0 : ∃ o, fops[0]? = some o ∧ o.dst = some 1 ∧ o.op = .makeMap 213 none ∧ o.guard = none := ⟨_, rfl, rfl, rfl, rfl⟩
theorem opC (k : Fin 5) : ∃ o, fops[2 * k.val + 1]? = some o ∧ o.dst = some (k.val + 2) ∧ o.op = .call { callee := .value (.func 146), args := #[.const (.int .i64 ((k.val : Int) + 1))], argTypes := #[3] } ∧ o.guard = none := by
  have : k = 0 ∨ k = 1 ∨ k = 2 ∨ k = 3 ∨ k = 4 := by omega
  rcases this with rfl | rfl | rfl | rfl | rfl <;> exact ⟨_, rfl, rfl, rfl, rfl⟩
theorem opI (k : Fin 5) : ∃ o, fops[2 * k.val + 2]? = some o ∧ o.dst = none ∧ o.op = .insert 213 (.tmp 1) (.tmp (k.val + 2)) (.func (fnK k)) ∧ o.guard = none := by
  have : k = 0 ∨ k = 1 ∨ k = 2 ∨ k = 3 ∨ k = 4 := by omega
  rcases this with rfl | rfl | rfl | rfl | rfl <;> exact ⟨_, rfl, rfl, rfl, rfl⟩
theorem op11 : ∃ o, fops[11]? = some o ∧ o.dst = some 7 ∧ o.op = .move (.tmp 1) ∧ o.guard = none := ⟨_, rfl, rfl, rfl, rfl⟩
theorem op12 : ∃ o, fops[12]? = some o ∧ o.dst = some 0 ∧ o.op = .assign (.tmp 7) ∧ o.guard = none := ⟨_, rfl, rfl, rfl, rfl⟩
def arrL (m : Bool) (c : Nat) (L : List (Fin 5)) : Array Bool := arr m c (decide (0 ∈ L)) (decide (1 ∈ L)) (decide (2 ∈ L)) (decide (3 ∈ L)) (decide (4 ∈ L))
def cntL (L : List (Fin 5)) : Nat := (if 0 ∈ L then 0 else 1) + (if 1 ∈ L then 0 else 1) + (if 2 ∈ L then 0 else 1) + (if 3 ∈ L then 0 else 1) + (if 4 ∈ L then 0 else 1)
def aEnd (w : World) : Act := ((aOf w true 5).put (some 7) (.map (some w.heap.size))).put (some 0) (.map (some w.heap.size))
theorem fin3 : ((3 : Fin 5) : Nat) = 3 := rfl
theorem fin4 : ((4 : Fin 5) : Nat) = 4 := rfl
theorem arrL_ins (k : Fin 5) (c : Nat) (L : List (Fin 5)) : (arrL true c L).setIfInBounds (2 * k.val + 2) true = arrL true c (L ++ [k]) := by
  have : k = 0 ∨ k = 1 ∨ k = 2 ∨ k = 3 ∨ k = 4 := by omega
  rcases this with rfl | rfl | rfl | rfl | rfl <;> simp [arrL, arr, fin3, fin4]
theorem arrL_call (k : Fin 5) (m : Bool) (L : List (Fin 5)) : (arrL m k.val L).setIfInBounds (2 * k.val + 1) true = arrL m (k.val + 1) L := by
  have : k = 0 ∨ k = 1 ∨ k = 2 ∨ k = 3 ∨ k = 4 := by omega
  rcases this with rfl | rfl | rfl | rfl | rfl <;> simp [arrL, arr, fin3, fin4]
theorem aOf_call (w : World) (k : Fin 5) (m : Bool) : (aOf w m k.val).put (some (k.val + 2)) (.string (keyK k)) = aOf w m (k.val + 1) := by
  have : k = 0 ∨ k = 1 ∨ k = 2 ∨ k = 3 ∨ k = 4 := by omega
  rcases this with rfl | rfl | rfl | rfl | rfl <;> simp [aOf, Act.put, fin3, fin4]
theorem aOf_key (w : World) (k : Fin 5) (c : Nat) (h : k.val < c) : (aOf w true c).eval (.tmp (k.val + 2)) = .string (keyK k) := by
  have : k = 0 ∨ k = 1 ∨ k = 2 ∨ k = 3 ∨ k = 4 := by omega
  rcases this with rfl | rfl | rfl | rfl | rfl <;> exact if_pos h
theorem cnt_ins (k : Fin 5) (L : List (Fin 5)) (h : k ∉ L) : cntL L = cntL (L ++ [k]) + 1 := by
  have : k = 0 ∨ k = 1 ∨ k = 2 ∨ k = 3 ∨ k = 4 := by omega
  rcases this with rfl | rfl | rfl | rfl | rfl <;> simp [cntL, h] <;> omega
theorem cnt_zero {L : List (Fin 5)} (h : cntL L = 0) : ∀ k : Fin 5, k ∈ L := by
  unfold cntL at h
  intro k
  have h0 : 0 ∈ L := Decidable.byContradiction fun q => by rw [if_neg q] at h; omega
  have h1 : 1 ∈ L := Decidable.byContradiction fun q => by rw [if_neg q] at h; omega
  have h2 : 2 ∈ L := Decidable.byContradiction fun q => by rw [if_neg q] at h; omega
  have h3 : 3 ∈ L := Decidable.byContradiction fun q => by rw [if_neg q] at h; omega
  have h4 : 4 ∈ L := Decidable.byContradiction fun q => by rw [if_neg q] at h; omega
  have : k = 0 ∨ k = 1 ∨ k = 2 ∨ k = 3 ∨ k = 4 := by omega
  rcases this with rfl | rfl | rfl | rfl | rfl <;> assumption
set_option maxRecDepth 100000 in
set_option maxHeartbeats 4000000 in
theorem forms_any (w : World) (Q : Exit → Act → World → Prop) (HQ : ∀ L : List (Fin 5), L.Nodup → (∀ k, k ∈ L) → Q .normal (aEnd w) (mapW w (L.map pr))) :
    ∀ (n : Nat) (m : Bool) (c : Nat) (L : List (Fin 5)), (if m = true then 0 else 1) + (5 - c) + cntL L = n → c ≤ 5 → L.Nodup → (m = false → L = []) → (∀ k ∈ L, k.val < c) → wpAny Tryz.prog .any fops Q (n + 2) (arrL m c L) (aOf w m c) (wOf w m L) := by
  intro n
  induction n with
  | zero =>
    intro m c L hn hc hL hm hk
    obtain rfl : m = true := by cases m with | true => rfl | false => simp at hn
    obtain rfl : c = 5 := by simp at hn; omega
    have hall := cnt_zero (L := L) (by simp at hn; omega)
    have ha : arrL true 5 L = arr true 5 true true true true true := by unfold arrL; simp [hall]
    rw [ha]
    obtain ⟨o, h1, h2, h3, h4⟩ := op11
    obtain ⟨o', g1, g2, g3, g4⟩ := op12
    refine wpAny_all (rs := [11]) (by kernel_rfl) (by simp) (fun i hi => ?_)
    rw [List.mem_singleton] at hi; subst hi
    refine wpOp_plain h1 h4 (wp_value (v := .map (some w.heap.size)) (w' := mapW w (L.map pr)) (by simp [execOp, h3, aOf, Act.eval, wOf]) ?_)
    rw [h2]
    refine wpAny_all (rs := [12]) (by kernel_rfl) (by simp) (fun i hi => ?_)
    rw [List.mem_singleton] at hi; subst hi
    refine wpOp_plain g1 g4 (wp_value (v := .map (some w.heap.size)) (w' := mapW w (L.map pr)) (by simp [execOp, g3, aOf, Act.eval, Act.put]) ?_)
    rw [g2]
    exact wpAny_done (by kernel_rfl) (HQ L hL hall) 0
  | succ n ih =>
    intro m c L hn hc hL hm hk
    have hr := ready_ok m ⟨c, by omega⟩ (decide (0 ∈ L)) (decide (1 ∈ L)) (decide (2 ∈ L)) (decide (3 ∈ L)) (decide (4 ∈ L))
    rw [Bool.and_eq_true] at hr
    refine ⟨fun h0 => ?_, fun i hi => ?_⟩
    · have h2 := hr.2
      have h0' : Region.ready .any fops (arr m c (decide (0 ∈ L)) (decide (1 ∈ L)) (decide (2 ∈ L)) (decide (3 ∈ L)) (decide (4 ∈ L))) = [] := h0
      simp only [h0'] at h2
      cases h2
    · have ho := List.all_eq_true.1 hr.1 i hi
      have step_ins : ∀ k : Fin 5, m = true → k ∉ L → k.val < c → wpOp Tryz.prog fops Q (2 * k.val + 2) (wpAny Tryz.prog .any fops Q (n + 2) ((arrL m c L).setIfInBounds (2 * k.val + 2) true)) (aOf w m c) (wOf w m L) := by
        rintro k rfl hkL hkc
        obtain ⟨o, h1, h2, h3, h4⟩ := opI k
        have hput := run_put (P := Tryz.prog) w Tryz.underlying213 Tryz.underlying9 (L.map pr) (keyK k) (.func (.func (fnK k)) #[] #[]) (by
          intro e he
          obtain ⟨j, hj, rfl⟩ := List.mem_map.1 he
          exact fun q => hkL (keyK_inj j k q ▸ hj))
        refine wpOp_plain h1 h4 (wp_skip (w' := mapW w ((L ++ [k]).map pr)) h2 ?_ ?_)
        · have e1 : (aOf w true c).eval (.tmp 1) = .map (some w.heap.size) := rfl
          have e3 : (aOf w true c).eval (.func (fnK k)) = .func (.func (fnK k)) #[] #[] := rfl
          have hput' : (Instr.mapUpdate 213 (.map (some w.heap.size)) (.string (keyK k)) (.func (.func (fnK k)) #[] #[])).run Tryz.prog (wOf w true L) = .ok () (mapW w ((L ++ [k]).map pr)) := by
            rw [List.map_append]; exact hput
          unfold execOp
          simp only [h3, e1, e3, aOf_key w k c hkc, Sem.run_bind, hput', Result.andThen_ok, Sem.run_pure]
        · rw [arrL_ins]
          exact ih true c (L ++ [k]) (by have := cnt_ins k L hkL; simp at hn ⊢; omega) hc (by rw [List.nodup_append]; exact ⟨hL, by simp, fun a ha b hb => by simp at hb; subst hb; exact fun q => hkL (q ▸ ha)⟩) (fun q => by cases q) (fun j hj => by rcases List.mem_append.1 hj with q | q; exact hk j q; simp at q; subst q; exact hkc)
      have step_call : ∀ k : Fin 5, c = k.val → wpOp Tryz.prog fops Q (2 * k.val + 1) (wpAny Tryz.prog .any fops Q (n + 2) ((arrL m c L).setIfInBounds (2 * k.val + 1) true)) (aOf w m c) (wOf w m L) := by
        rintro k rfl
        obtain ⟨o, h1, h2, h3, h4⟩ := opC k
        refine wpOp_plain h1 h4 (wp_enter (f := 146) (args := #[.int .i64 ((k.val : Int) + 1)]) (v := .string (keyK k)) ?_ (kindNameC _ _) ?_)
        · unfold execOp
          simp [h3, resolve, invoke, Deferred.ofValue, Act.eval]
        · rw [h2, arrL_call, aOf_call]
          exact ih m (k.val + 1) L (by have := k.isLt; omega) (by have := k.isLt; omega) hL hm (fun j hj => Nat.lt_succ_of_lt (hk j hj))
      simp only [okS, Bool.or_eq_true, Bool.and_eq_true, beq_iff_eq, Bool.not_eq_true', decide_eq_true_eq, decide_eq_false_iff_not] at ho
      rcases ho with ((((((⟨rfl, hmf⟩ | ⟨rfl, hc5⟩) | ⟨⟨⟨rfl, hm1⟩, hk0⟩, hc0⟩) | ⟨⟨⟨rfl, hm1⟩, hk0⟩, hc0⟩) | ⟨⟨⟨rfl, hm1⟩, hk0⟩, hc0⟩) | ⟨⟨⟨rfl, hm1⟩, hk0⟩, hc0⟩) | ⟨⟨⟨rfl, hm1⟩, hk0⟩, hc0⟩) | ⟨⟨⟨⟨⟨⟨⟨rfl, hm1⟩, hc0⟩, q0⟩, q1⟩, q2⟩, q3⟩, q4⟩
      · subst hmf
        obtain rfl := hm rfl
        obtain ⟨o, h1, h2, h3, h4⟩ := op0
        refine wpOp_plain h1 h4 (wp_value (v := .map (some w.heap.size)) (w' := mapW w []) (by unfold execOp; simp [h3, run_makeMap_plain, wOf, mapW, entL]) ?_)
        rw [h2]
        exact ih true c [] (by simp at hn ⊢; omega) hc List.nodup_nil (fun _ => rfl) (fun k hk => by cases hk)
      · exact step_call ⟨c, hc5⟩ rfl
      · exact step_ins 0 hm1 hk0 hc0
      · exact step_ins 1 hm1 hk0 hc0
      · exact step_ins 2 hm1 hk0 hc0
      · exact step_ins 3 hm1 hk0 hc0
      · exact step_ins 4 hm1 hk0 hc0
      · exfalso
        rw [hm1, hc0] at hn
        simp [cntL, q0, q1, q2, q3, q4] at hn
theorem aEnd_eq (w : World) : aEnd w = ⟨#[.map (some w.heap.size), .map (some w.heap.size), .string (keyK 0), .string (keyK 1), .string (keyK 2), .string (keyK 3), .string (keyK 4), .map (some w.heap.size)], []⟩ := by simp [aEnd, aOf, Act.put]
set_option maxRecDepth 100000 in
set_option maxHeartbeats 1000000 in
theorem formsC (w : World) : Calls Tryz.prog 120 #[] w fun e w' => ∃ L : List (Fin 5), L.Nodup ∧ (∀ k, k ∈ L) ∧ e = .returned (.map (some w.heap.size)) ∧ w' = mapW w.drew (L.map pr) := by
  go_enter Tryz.func120, Tryz.ntmps120
  go_wp2_with fail
  refine wp_region_any (by kernel_rfl) ?_
  refine forms_any w.drew _ (fun L hL hall => ?_) 11 false 0 [] rfl (by decide) List.nodup_nil (fun _ => rfl) (fun k hk => by cases hk)
  rw [aEnd_eq]
  go_wp2_with fail
  go_ret
  exact ⟨L, hL, hall, rfl, rfl⟩
end Go.Proofs.YteknmbijodbfoaaGreatDoor

namespace Go.Proofs.YteknmbijodbfoaaGreatDoor
open Go.RowKit

theorem results_cell_tmp2 {P : Program} {fn : Func} {p u1 u2 : Tmp} {ty : TypeId} (h : fn.results = #[.cell p ty, .tmp u1, .tmp u2]) (tmps : Array Value) (w : World) (g : Nat) (t : TypeId) (cs : Array Value) (fr : Nat × Nat) (d : TypeDesc)
    (hp : tmps.getD p undef = .pointer (some ⟨g, 0, none⟩)) (hg : w.heap[g]? = some (.cells cs t fr))
    (hu : P.underlying ty = some d) (hd : (match d with | .struct _ | .array _ _ => true | _ => false) = true) (hi : (P.info? ty).map (·.size) = some cs.size) :
    (results fn tmps).run P w = .ok (.tuple #[.agg cs, tmps.getD u1 undef, tmps.getD u2 undef]) w := by
  have hp' : tmps[p]?.getD undef = .pointer (some ⟨g, 0, none⟩) := by simpa using hp
  simp [results, h, hp', asAddr, run_loadVar_row w g t ty cs fr d hg hu hd hi]
theorem formsR (w : World) : Calls Tryz.prog 120 #[] w fun e w' => ∃ (L : List (Fin 5)) (r : Nat), ((L.map pr).map (·.1)).Nodup ∧ (∀ k, k ∈ L) ∧ e = .returned (.map (some r)) ∧ w'.heap[r]? = some (.map (entL (L.map pr) 0).toArray (L.map pr).length) ∧ Gr w w' :=
  (formsC w).mono fun e w' ⟨L, hL, hall, he, hw⟩ => ⟨L, w.heap.size, by
    rw [List.Nodup, List.map_map, List.pairwise_map]
    exact hL.imp fun h e => h (keyK_inj _ _ e), hall, he, by rw [hw]; exact mapW_heap w.drew _, by rw [hw]; exact ((Gr.refl w).drew).alloc _⟩
theorem egK (k : Fin 5) : ∀ args w, (callFunc (fnK k) args).run Tryz.prog w = .ok (.enter (fnK k) args) w := by
  have : k = 0 ∨ k = 1 ∨ k = 2 ∨ k = 3 ∨ k = 4 := by omega
  rcases this with rfl | rfl | rfl | rfl | rfl
  · exact enters_of Tryz.func147 (by kernel_rfl) rfl
  · exact enters_of Tryz.func149 (by kernel_rfl) rfl
  · exact enters_of Tryz.func151 (by kernel_rfl) rfl
  · exact enters_of Tryz.func155 (by kernel_rfl) rfl
  · exact enters_of Tryz.func156 (by kernel_rfl) rfl
theorem run_stCells {P : Program} {w : World} {b k : Nat} {cs : List Value} (hr : hasRow w ⟨b, k, none⟩ cs.length = true) (hf : freeRow w ⟨b, k, none⟩ cs.length = true) (h1 : oneB cs = true) : (storeCells ⟨b, k, none⟩ cs).run P w = .ok () (w.setCells b k cs) := by
  have hs := run_storeCells_cells (P := P) b k cs 0 w (fun c hc => by have := hasRow_iff.1 hr c hc; rw [Addr.add_lit] at this; simpa using this) (fun c hc => by have := freeRow_iff.1 hf c hc; rw [Addr.add_lit] at this; simpa using this) (fun v hv => by simpa using List.all_eq_true.1 h1 v hv)
  rw [Nat.add_zero] at hs
  exact hs
/-- What is left of a reading: the command, or the first error. -/
def finS (n : Nat) (p : PS) : PS := if p.fin < n then p.fail p.fin 5 else p
def finP (n : Nat) (r : PS × Cm) : Cm × Nat × Int := if (finS n r.1).e ≠ 0 then (cm0 0, (finS n r.1).at_, (finS n r.1).e) else (r.2, 0, 0)
/-- What Parse leaves. -/
def PrPost (x : Cm × Nat × Int) (w : World) (e : Ending) (w' : World) : Prop := ∃ v, e = .returned (.tuple #[.agg (cmC x.1 v).toArray, .int .i64 x.2.1, .int .i64 x.2.2]) ∧ AutsAt w' v x.1.mods ∧ Gr w w'
set_option maxRecDepth 100000 in
set_option maxHeartbeats 2000000 in
theorem parseC (s : ByteArray) (w : World) (k : Fin 5) (w0 : Str) (ws : List Str) (r : PS × Cm) (hsp : splitL 32 (bl s) = w0 :: ws) (hk : bs w0 = keyK k) (hs : s.size ≤ 1000) (hE : Env w) (_hb : 5 < w.heap.size) (_hml : r.2.mods.length ≤ 1000000)
    (HR : ∀ (U : World) (b : Nat), Gr w U → w.heap.size ≤ b → PSAt U b s ⟨0, w0.length, ws, 0, 0⟩ → Calls Tryz.prog (fnK k) #[.pointer (some ⟨b, 0, none⟩)] U (RdPost b s r.1 U r.2)) :
    Calls Tryz.prog 92 #[.string s] w (PrPost (finP s.size r) w) := by
  have hcut : (Lib.cut (bl s) [32]).1 = w0 := by rw [head_cut, hsp]; rfl
  obtain ⟨mx, hm⟩ := hE
  have g0 := (Gr.refl w).alloc (.cells (cmC (cm0 0) nilV).toArray 177)
  have hm0 := (g0.cell (p := ⟨5, 0, none⟩) (World.block_lt_of_cell? w _ hm)).trans hm
  have HCU := Lib.hid (Tryz.strings_Cut s ⟨#[32]⟩ mx _ (by omega) hm0)
  have e1 : s.data.toList = bl s := rfl
  have e2 : (⟨#[32]⟩ : ByteArray).data.toList = [32] := rfl
  rw [e1, e2, hcut] at HCU
  have B0 := Lib.hid (heap_alloc_new w (.cells (cmC (cm0 0) nilV).toArray 177))
  have G0 := Lib.hid g0
  have HRR := Lib.hid HR
  have hd : decide (1000 < (s.size : Int)) = false := by simp; omega
  generalize (Lib.cut (bl s) [32]).2.1 = y at *
  generalize (Lib.cut (bl s) [32]).2.2 = z at *
  clear hcut hm hm0 g0 HR e1 e2 hsp
  go_enter Tryz.func92, Tryz.ntmps92
  go_wp2_with fail
  refine HCU.out.mono ?_
  rintro e w1 ⟨rfl, n1, rfl⟩
  have hw0 : (⟨w0.toArray⟩ : ByteArray) = bs w0 := rfl
  rw [hw0]
  go_wp2_with fail
  refine (formsR _).mono ?_
  rintro e W2 ⟨L, rm, hL, hall, rfl, hmap, hg2⟩
  have hl := run_get (P := Tryz.prog) Tryz.underlying213 Tryz.underlying9 hmap hL (keyK k) (.func (.func (fnK k)) #[] #[]) (List.mem_map_of_mem (f := pr) (hall k))
  have g2 := ((Gr.refl (w.alloc (.cells (cmC (cm0 0) nilV).toArray 177))).drewN n1).trans hg2
  have b2 := (g2.block (b := w.heap.size) (by simp)).trans B0.out
  have G2 := Lib.hid (G0.out.trans g2)
  have hz2 : w.heap.size < W2.heap.size := (Array.getElem?_eq_some_iff.1 b2).1
  have hsz : (keyK k).size = w0.length := by rw [← hk]; rfl
  have B2 := Lib.hid (((Gr.refl W2).alloc (.cells #[.string s, .int .i64 0, .int .i64 (w0.length : Int), .int .i64 0, .int .i64 0] 217)).block hz2 |>.trans b2)
  have P2 : Hid (PSAt (W2.alloc (.cells #[.string s, .int .i64 0, .int .i64 (w0.length : Int), .int .i64 0, .int .i64 0] 217)) W2.heap.size s ⟨0, w0.length, ws, 0, 0⟩) := heap_alloc_new W2 _
  have G3 := Lib.hid (G2.out.alloc (.cells #[.string s, .int .i64 0, .int .i64 (w0.length : Int), .int .i64 0, .int .i64 0] 217))
  have eg := egK k
  clear hmap hg2 g2 b2 B0 HCU
  go_wp2_with fail
  refine (HRR.out _ _ G3.out (by omega) P2.out).mono ?_
  rintro e w4 ⟨av, nv, capv, rfl, hv, hblk, h4, hg4⟩
  have b4 := grown_block hg4 B2.out (by simp; omega)
  have G4 : Gr w w4 := G3.out.grown hg4 (fun q hq => by cases hq; omega)
  have k4 := sets_whole (w := w4) (cs := cmC r.2 (.slice av nv capv)) b4 (by rw [cmC_length, cmC_length])
  have h5 := PSAt.other (w' := w4.setCells w.heap.size 0 (cmC r.2 (.slice av nv capv))) h4 (sets_other (b := w.heap.size) (i := W2.heap.size) (by omega) _ 0 w4)
  have G5 : Hid (Gr w (w4.setCells w.heap.size 0 (cmC r.2 (.slice av nv capv)))) := Gr.of_grownBy (grown_sets (Nat.le_refl _) _ 0 w4 (grown_gr G4))
  have HV5 : Hid (AutsAt (w4.setCells w.heap.size 0 (cmC r.2 (.slice av nv capv))) (.slice av nv capv) r.2.mods) := by
    refine SlAt.keep hv (fun x hx => sets_other (b := w.heap.size) (i := x.block) ?_ _ 0 w4) (by rw [sets_size]; exact Nat.le_refl _)
    have := hblk x hx; simp at this; omega
  have v0 := hasRow_block b4 0 56 (by rw [cmC_length]; decide)
  have y0 := freeRow_block b4 0 56
  have HBK : Hid (∀ x, av = some x → x.block ≠ w.heap.size) := fun x hx => by have := hblk x hx; simp at this; omega
  clear hg4 h4 b4 G4 HRR P2 B2 hl eg hL hall hv hblk
  by_cases hlt : r.1.fin < s.size
  · have hFS : finS s.size r.1 = r.1.fail r.1.fin 5 := by unfold finS; rw [if_pos hlt]
    have hne : (r.1.fail r.1.fin 5).e ≠ 0 := by unfold PS.fail; split; exact (by decide : (5 : Int) ≠ 0); rename_i q; exact fun e => q ⟨e, by decide⟩
    have HFIN : Hid (finP s.size r = (cm0 0, (r.1.fail r.1.fin 5).at_, (r.1.fail r.1.fin 5).e)) := by show _ = _; unfold finP; rw [hFS, if_pos hne]
    have hc : decide ((r.1.fin : Int) < (s.size : Int)) = true := by simp; omega
    have HF := Lib.hid (failC W2.heap.size s r.1 r.1.fin 5 _ h5)
    obtain ⟨c0, c1, c2, c3, c4, _, _⟩ := h5.facts
    have K4 := Lib.hid k4
    clear h5 k4
    generalize r.1.fail r.1.fin 5 = p6 at *
    go_wp2_with fail
    refine HF.out.mono ?_
    rintro e W6 ⟨rfl, h6, hg6⟩
    have k6 := grown_block hg6 K4.out (by simp; omega)
    have G6 : Hid (Gr w W6) := G5.out.grown hg6 (fun q hq => by cases hq; omega)
    obtain ⟨d0, d1, d2, d3, d4, _, _⟩ := h6.facts
    have he1 : (p6.e != 0) = true := by simp [hne]
    clear c0 c1 c2 c3 c4 hg6 G5 K4 HF hFS hne hlt
    have u0 := hasRow_block k6 0 56 (by rw [cmC_length]; decide)
    have f0 := freeRow_block k6 0 56
    have hS0 : (W6.drew.cell? ⟨W2.heap.size, 3, none⟩ = some (.int .i64 p6.at_) ∧ W6.drew.cell? ⟨W2.heap.size, 4, none⟩ = some (.int .i64 p6.e) ∧ hasRow W6.drew ⟨w.heap.size, 0, none⟩ 56 = true ∧ freeRow W6.drew ⟨w.heap.size, 0, none⟩ 56 = true) := ⟨d3, d4, u0, f0⟩
    have h7 := PSAt.other (w' := W6.drew.setCells w.heap.size 0 (cmC (cm0 0) nilV)) (h6.gr (Gr.refl W6).drew) (sets_other (b := w.heap.size) (i := W2.heap.size) (by omega) _ 0 W6.drew)
    have k7 := sets_whole (w := W6.drew) (cs := cmC (cm0 0) nilV) k6 (by rw [cmC_length, cmC_length])
    obtain ⟨_, _, _, x3, x4, _, _⟩ := h7.facts
    have hS1 : ((W6.drew.setCells w.heap.size 0 (cmC (cm0 0) nilV)).cell? ⟨W2.heap.size, 3, none⟩ = some (.int .i64 p6.at_) ∧ (W6.drew.setCells w.heap.size 0 (cmC (cm0 0) nilV)).cell? ⟨W2.heap.size, 4, none⟩ = some (.int .i64 p6.e) ∧ hasRow (W6.drew.setCells w.heap.size 0 (cmC (cm0 0) nilV)) ⟨w.heap.size, 0, none⟩ 56 = true ∧ freeRow (W6.drew.setCells w.heap.size 0 (cmC (cm0 0) nilV)) ⟨w.heap.size, 0, none⟩ 56 = true) := ⟨x3, x4, hasRow_block k7 0 56 (by rw [cmC_length]; decide), freeRow_block k7 0 56⟩
    have K7 := Lib.hid k7
    have hst : Sem.run Tryz.prog (storeCells ⟨w.heap.size, 0, none⟩ (cmC (cm0 0) nilV)) W6.drew = .ok () (W6.drew.setCells w.heap.size 0 (cmC (cm0 0) nilV)) := run_stCells (by rw [cmC_length]; exact u0) (by rw [cmC_length]; exact f0) (oneCmN _)
    have G7 : Hid (Gr w (W6.drew.setCells w.heap.size 0 (cmC (cm0 0) nilV))) := Gr.of_grownBy (grown_sets (Nat.le_refl _) _ 0 W6.drew (grown_gr (G6.out.drew)))
    clear x3 x4 h7 k7 k6 h6
    go_wp2_with fail
    go_region_held_law (fun u => u.cell? ⟨W2.heap.size, 3, none⟩ = some (.int .i64 p6.at_) ∧ u.cell? ⟨W2.heap.size, 4, none⟩ = some (.int .i64 p6.e) ∧ hasRow u ⟨w.heap.size, 0, none⟩ 56 = true ∧ freeRow u ⟨w.heap.size, 0, none⟩ 56 = true) (first | with_reducible exact hS0 | with_reducible exact hS1) (fail)
    go_wp2_with fail
    refine bodyPost_ret (results_cell_tmp2 (p := 2) (u1 := 3) (u2 := 4) rfl _ _ w.heap.size _ _ _ _ rfl K7.out Tryz.underlying177 rfl (by rw [List.size_toArray, cmC_length]; kernel_rfl)) rfl ?_
    rw [HFIN.out]
    exact ⟨nilV, rfl, nil_auts _, G7.out⟩
  · have hFS : finS s.size r.1 = r.1 := by unfold finS; rw [if_neg hlt]
    have hc : decide ((r.1.fin : Int) < (s.size : Int)) = false := by simp; omega
    have hc2 : decide (r.1.fin < s.size) = false := by simp; omega
    clear hlt
    by_cases he : r.1.e = 0
    · have HFIN : Hid (finP s.size r = (r.2, 0, 0)) := by show _ = _; unfold finP; rw [hFS, if_neg (by simp [he])]
      obtain ⟨d0, d1, d2, d3, d4, _, _⟩ := h5.facts
      rw [he] at d4
      have u0 := hasRow_block k4 0 56 (by rw [cmC_length]; decide)
      have q0 := (rowAt_block k4 0 56 (by rw [cmC_length]; decide)).trans (cm_whole r.2 (.slice av nv capv))
      have f0 := freeRow_block k4 0 56
      have k7 := Lib.hid (sets_whole (cs := cmC r.2 (.slice av nv capv)) k4 rfl)
      have G7 : Hid (Gr w ((w4.setCells w.heap.size 0 (cmC r.2 (.slice av nv capv))).setCells w.heap.size 0 (cmC r.2 (.slice av nv capv)))) := Gr.of_grownBy (grown_sets (Nat.le_refl _) _ 0 (w4.setCells w.heap.size 0 (cmC r.2 (.slice av nv capv))) (grown_gr G5.out))
      have HV7 : Hid (AutsAt ((w4.setCells w.heap.size 0 (cmC r.2 (.slice av nv capv))).setCells w.heap.size 0 (cmC r.2 (.slice av nv capv))) (.slice av nv capv) r.2.mods) := by
        refine SlAt.keep HV5.out (fun x hx => sets_other (b := w.heap.size) (i := x.block) ?_ _ 0 (w4.setCells w.heap.size 0 (cmC r.2 (.slice av nv capv)))) (Nat.le_of_eq (sets_size _ _ _ _).symm)
        exact HBK.out x hx
      clear h5 k4 he
      go_wp2_with fail
      refine bodyPost_ret (results_cell_tmp2 (p := 2) (u1 := 3) (u2 := 4) rfl _ _ w.heap.size _ _ _ _ rfl k7.out Tryz.underlying177 rfl (by rw [List.size_toArray, cmC_length]; kernel_rfl)) rfl ?_
      rw [HFIN.out]
      exact ⟨.slice av nv capv, rfl, HV7.out, G7.out⟩
    · have HFIN : Hid (finP s.size r = (cm0 0, r.1.at_, r.1.e)) := by show _ = _; unfold finP; rw [hFS, if_pos he]
      have he1 : (r.1.e != 0) = true := by simp [he]
      obtain ⟨c0, c1, c2, c3, c4, _, _⟩ := h5.facts
      clear HV5 HBK he
      generalize r.1 = p6 at *
      go_wp2_with fail
      have h6 := h5
      have k6 := k4
      have G6 := G5
      clear h5 k4 G5 c0 c1 c2 c3 c4
      generalize w4.setCells w.heap.size 0 (cmC r.2 (.slice av nv capv)) = W6 at *
      obtain ⟨d0, d1, d2, d3, d4, _, _⟩ := h6.facts
      have u0 := hasRow_block k6 0 56 (by rw [cmC_length]; decide)
      have f0 := freeRow_block k6 0 56
      have hS0 : (W6.drew.cell? ⟨W2.heap.size, 3, none⟩ = some (.int .i64 p6.at_) ∧ W6.drew.cell? ⟨W2.heap.size, 4, none⟩ = some (.int .i64 p6.e) ∧ hasRow W6.drew ⟨w.heap.size, 0, none⟩ 56 = true ∧ freeRow W6.drew ⟨w.heap.size, 0, none⟩ 56 = true) := ⟨d3, d4, u0, f0⟩
      have h7 := PSAt.other (w' := W6.drew.setCells w.heap.size 0 (cmC (cm0 0) nilV)) (h6.gr (Gr.refl W6).drew) (sets_other (b := w.heap.size) (i := W2.heap.size) (by omega) _ 0 W6.drew)
      have k7 := sets_whole (w := W6.drew) (cs := cmC (cm0 0) nilV) k6 (by rw [cmC_length, cmC_length])
      obtain ⟨_, _, _, x3, x4, _, _⟩ := h7.facts
      have hS1 : ((W6.drew.setCells w.heap.size 0 (cmC (cm0 0) nilV)).cell? ⟨W2.heap.size, 3, none⟩ = some (.int .i64 p6.at_) ∧ (W6.drew.setCells w.heap.size 0 (cmC (cm0 0) nilV)).cell? ⟨W2.heap.size, 4, none⟩ = some (.int .i64 p6.e) ∧ hasRow (W6.drew.setCells w.heap.size 0 (cmC (cm0 0) nilV)) ⟨w.heap.size, 0, none⟩ 56 = true ∧ freeRow (W6.drew.setCells w.heap.size 0 (cmC (cm0 0) nilV)) ⟨w.heap.size, 0, none⟩ 56 = true) := ⟨x3, x4, hasRow_block k7 0 56 (by rw [cmC_length]; decide), freeRow_block k7 0 56⟩
      have K7 := Lib.hid k7
      have hst : Sem.run Tryz.prog (storeCells ⟨w.heap.size, 0, none⟩ (cmC (cm0 0) nilV)) W6.drew = .ok () (W6.drew.setCells w.heap.size 0 (cmC (cm0 0) nilV)) := run_stCells (by rw [cmC_length]; exact u0) (by rw [cmC_length]; exact f0) (oneCmN _)
      have G7 : Hid (Gr w (W6.drew.setCells w.heap.size 0 (cmC (cm0 0) nilV))) := Gr.of_grownBy (grown_sets (Nat.le_refl _) _ 0 W6.drew (grown_gr (G6.out.drew)))
      clear x3 x4 h7 k7 k6 h6
      go_region_held_law (fun u => u.cell? ⟨W2.heap.size, 3, none⟩ = some (.int .i64 p6.at_) ∧ u.cell? ⟨W2.heap.size, 4, none⟩ = some (.int .i64 p6.e) ∧ hasRow u ⟨w.heap.size, 0, none⟩ 56 = true ∧ freeRow u ⟨w.heap.size, 0, none⟩ 56 = true) (first | with_reducible exact hS0 | with_reducible exact hS1) (fail)
      go_wp2_with fail
      refine bodyPost_ret (results_cell_tmp2 (p := 2) (u1 := 3) (u2 := 4) rfl _ _ w.heap.size _ _ _ _ rfl K7.out Tryz.underlying177 rfl (by rw [List.size_toArray, cmC_length]; kernel_rfl)) rfl ?_
      rw [HFIN.out]
      exact ⟨nilV, rfl, nil_auts _, G7.out⟩
end Go.Proofs.YteknmbijodbfoaaGreatDoor

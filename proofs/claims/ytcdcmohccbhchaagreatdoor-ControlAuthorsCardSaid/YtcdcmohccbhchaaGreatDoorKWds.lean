/- The words of a text, read one after the other: fail, next, group. -/
import Derived.Test.YtcdcmohccbhchaaGreatDoorKPrn
namespace Go.Proofs.YtcdcmohccbhchaaGreatDoor
open Go.RowKit

/-- Block b is a reader of s, in state p. -/
def PSAt (w : World) (b : Nat) (s : ByteArray) (p : PS) : Prop := w.heap[b]? = some (.cells #[.string s, .int .i64 p.start, .int .i64 p.fin, .int .i64 p.at_, .int .i64 p.e] 86 (0, 0))
theorem PSAt.gr {w w' : World} {b : Nat} {s : ByteArray} {p : PS} (h : PSAt w b s p) (hg : Gr w w') : PSAt w' b s p := (hg.block (Array.getElem?_eq_some_iff.1 h).1).trans h
theorem PSAt.facts {w : World} {b : Nat} {s : ByteArray} {p : PS} (h : PSAt w b s p) : w.cell? ⟨b, 0, none⟩ = some (.string s) ∧ w.cell? ⟨b, 1, none⟩ = some (.int .i64 p.start) ∧ w.cell? ⟨b, 2, none⟩ = some (.int .i64 p.fin) ∧ w.cell? ⟨b, 3, none⟩ = some (.int .i64 p.at_) ∧ w.cell? ⟨b, 4, none⟩ = some (.int .i64 p.e) ∧ (∀ k, w.frozen? ⟨b, k, none⟩ = false) ∧ b < w.heap.size :=
  ⟨cell_of_row w b 0 _ _ _ h, cell_of_row w b 1 _ _ _ h, cell_of_row w b 2 _ _ _ h, cell_of_row w b 3 _ _ _ h, cell_of_row w b 4 _ _ _ h, fun k => (by have h' : w.heap[b]? = _ := h; simp [World.frozen?, h']), (Array.getElem?_eq_some_iff.1 h).1⟩
theorem grown_set (w : World) (b k : Nat) (u : Value) : w.grownBy (w.setCell ⟨b, k, none⟩ u) (some b) :=
  ⟨rfl, rfl, rfl, by simp, fun j _ hk => heap_setCell_other w ⟨b, k, none⟩ j u (fun e => hk (by rw [e]))⟩
theorem grown_refl (w : World) (row : Option Nat) : w.grownBy w row := ⟨rfl, rfl, rfl, Nat.le_refl _, fun _ _ _ => rfl⟩
theorem grown_trans {a b c : World} {row : Option Nat} (h : a.grownBy b row) (k : b.grownBy c row) : a.grownBy c row :=
  ⟨k.os.trans h.os, k.tape.trans h.tape, k.output.trans h.output, Nat.le_trans h.size k.size, fun i hi hn => (k.block i (Nat.lt_of_lt_of_le hi h.size) hn).trans (h.block i hi hn)⟩
theorem grown_gr {a b : World} {row : Option Nat} (h : Gr a b) : a.grownBy b row := ⟨h.os, h.tape, h.output, h.size, fun i hi _ => h.block hi⟩
theorem PSAt.set1 {w : World} {b : Nat} {s : ByteArray} {p : PS} (h : PSAt w b s p) (n : Nat) : PSAt (w.setCell ⟨b, 1, none⟩ (.int .i64 n)) b s { p with start := n } := heap_setCell_same w b 1 _ _ _ h
theorem PSAt.set2 {w : World} {b : Nat} {s : ByteArray} {p : PS} (h : PSAt w b s p) (n : Nat) (r : List Str) : PSAt (w.setCell ⟨b, 2, none⟩ (.int .i64 n)) b s { p with fin := n, rest := r } := heap_setCell_same w b 2 _ _ _ h
theorem PSAt.set3 {w : World} {b : Nat} {s : ByteArray} {p : PS} (h : PSAt w b s p) (n : Nat) : PSAt (w.setCell ⟨b, 3, none⟩ (.int .i64 n)) b s { p with at_ := n } := heap_setCell_same w b 3 _ _ _ h
theorem PSAt.set4 {w : World} {b : Nat} {s : ByteArray} {p : PS} (h : PSAt w b s p) (n : Int) : PSAt (w.setCell ⟨b, 4, none⟩ (.int .i64 n)) b s { p with e := n } := heap_setCell_same w b 4 _ _ _ h

/-- What a method of the reader leaves. -/
def PSPost (b : Nat) (s : ByteArray) (p : PS) (w : World) (v : Value) (e : Ending) (w' : World) : Prop := e = .returned v ∧ PSAt w' b s p ∧ w.grownBy w' (some b)
set_option maxRecDepth 100000 in
set_option maxHeartbeats 1000000 in
theorem failC (b : Nat) (s : ByteArray) (p : PS) (a : Nat) (er : Int) (w : World) (h : PSAt w b s p) :
    Calls Tryz.prog 52 #[.pointer (some ⟨b, 0, none⟩), .int .i64 a, .int .i64 er] w (PSPost b s (p.fail a er) w (.tuple #[])) := by
  obtain ⟨c0, c1, c2, c3, c4, hf, hz⟩ := h.facts
  have hf3 := hf 3; have hf4 := hf 4
  have H := Lib.hid h
  clear h hf
  by_cases h0 : p.e = 0 ∧ er ≠ 0
  · have HF : Hid (p.fail a er = { p with at_ := a, e := er }) := by show _ = _; unfold PS.fail; rw [if_pos h0]
    have e1 : (er != 0) = true := by simp [h0.2]
    rw [h0.1] at c4
    clear h0
    go_enter Tryz.func52, Tryz.ntmps52
    go_wp2_with fail
    go_end0
    refine ⟨rfl, ?_, ?_⟩
    · rw [HF.out]; exact (H.out.set3 a).set4 er
    · exact grown_trans (grown_set _ _ _ _) (grown_set _ _ _ _)
  · have HF : Hid (p.fail a er = p) := by show _ = _; unfold PS.fail; rw [if_neg h0]
    by_cases hp : p.e = 0
    · have e1 : er = 0 := Decidable.byContradiction fun q => h0 ⟨hp, q⟩
      subst e1
      rw [hp] at c4
      clear h0
      go_enter Tryz.func52, Tryz.ntmps52
      go_wp2_with fail
      go_end0
      exact ⟨rfl, by rw [HF.out]; exact H.out, grown_refl _ _⟩
    · have e1 : (p.e == 0) = false := by simp [hp]
      clear h0 hp
      go_enter Tryz.func52, Tryz.ntmps52
      go_wp2_with fail
      go_end0
      exact ⟨rfl, by rw [HF.out]; exact H.out, grown_refl _ _⟩

theorem bl_extract (s : ByteArray) (k : Nat) : bl (s.extract k s.size) = (bl s).drop k := by
  have e : s.size = s.data.toList.length := Lib.size_eq s
  unfold bl
  rw [ByteArray.data_extract, Array.toList_extract, List.extract_eq_take_drop, List.take_of_length_le (by rw [List.length_drop, e]; exact Nat.le_refl _)]
/-- strings.Cut at a space, whatever the count of draws. -/
theorem cutC (t : ByteArray) (m : Int) (W : World) (hs : t.size ≤ 1000000) (hm : W.cell? ⟨1, 0, none⟩ = some (.int .i64 m)) :
    ∃ y z, ∀ n, Calls Tryz.prog 50 #[.string t, .string ⟨#[32]⟩] (W.drewN n) fun e w'' => e = .returned (.tuple #[.string (bs (Lib.cut (bl t) [32]).1), .string y, .bool z]) ∧ ∃ k, w'' = W.drewN k :=
  ⟨_, _, fun n => (Tryz.strings_Cut t ⟨#[32]⟩ m (W.drewN n) (by omega) hm).mono fun _ _ ⟨he, k, hk⟩ => ⟨he, n + k, by rw [hk, World.drewN_drewN]⟩⟩
theorem bs_size (x : Str) : (bs x).size = x.length := rfl
theorem extract_size_le (s : ByteArray) (k : Nat) : (s.extract k s.size).size ≤ s.size := by
  rw [← bl_length, bl_extract, List.length_drop, bl_length]; omega
set_option maxRecDepth 100000 in
set_option maxHeartbeats 2000000 in
theorem nextC (b : Nat) (s : ByteArray) (p : PS) (w : World) (h : PSAt w b s p) (hok : PSok (bl s) p) (hs : s.size ≤ 1000000) (hE : Env w) (hb : 1 < b) :
    Calls Tryz.prog 108 #[.pointer (some ⟨b, 0, none⟩)] w (PSPost b s (p.next s.size).1 w (.tuple #[.string (bs (p.next s.size).2.1), .bool (p.next s.size).2.2])) := by
  obtain ⟨c0, c1, c2, c3, c4, hf, hz⟩ := h.facts
  have hend := hok.end_
  rw [bl_length] at hend
  by_cases he : p.e = 0
  · cases hr : p.rest with
    | nil =>
      have hfin := hend.1 hr
      have HF : Hid (p.next s.size = ({ p with at_ := s.size, e := 4 }, [], false)) := by show _ = _; unfold PS.next; rw [if_neg (by simp [he]), hr]
      have HFL : Hid (p.fail s.size 4 = { p with at_ := s.size, e := 4 }) := by show _ = _; unfold PS.fail; rw [if_pos ⟨he, by decide⟩]
      rw [he] at c4
      rw [hfin] at c2
      have H := Lib.hid h
      clear hend hf
      go_enter Tryz.func108, Tryz.ntmps108
      go_wp2_with fail
      go_quiet (fail)
      go_wp2_with fail
      refine (failC b s p s.size 4 _ (H.out.gr ((Gr.refl w).drewN _))).mono ?_
      rintro e w1 ⟨rfl, h1, hg1⟩
      rw [HFL.out] at h1
      obtain ⟨d0, d1, d2, d3, d4, _, hz1⟩ := h1.facts
      have HG := Lib.hid (grown_trans (grown_gr ((Gr.refl w).drewN nq)) hg1)
      have H1 := Lib.hid h1
      clear hg1 h1
      go_wp2_with fail
      go_ret2
      exact ⟨by rw [HF.out]; rfl, by rw [HF.out]; exact H1.out, HG.out⟩
    | cons x xs =>
      obtain ⟨hcut, hok2, hle⟩ := hok.cut hr
      rw [bl_length] at hle
      have HF : Hid (p.next s.size = ({ p with start := p.fin + 1, fin := p.fin + 1 + x.length, rest := xs }, x, true)) := by show _ = _; unfold PS.next; rw [if_neg (by simp [he]), hr]
      have hne : ((p.fin : Int) == (s.size : Int)) = false := by simp; omega
      rw [he] at c4
      have H := Lib.hid h
      obtain ⟨mx, hm⟩ := hE
      clear hend
      go_enter Tryz.func108, Tryz.ntmps108
      go_wp2_with fail
      go_quiet (fail)
      go_wp2_with fail
      have e1 : ((p.fin : Int) + 1) = ((p.fin + 1 : Nat) : Int) := by omega
      rw [e1]
      have h2 := PSAt.set1 (H.out.gr ((Gr.refl w).drewN nq)) (p.fin + 1)
      have hg2 := grown_trans (grown_gr (row := some b) ((Gr.refl w).drewN nq)) (grown_set (w.drewN nq) b 1 (.int .i64 ((p.fin + 1 : Nat) : Int)))
      generalize (w.drewN nq).setCell ⟨b, 1, none⟩ (.int .i64 ((p.fin + 1 : Nat) : Int)) = W1 at *
      obtain ⟨d0, d1, d2, d3, d4, hf1, hz1⟩ := h2.facts
      have hm1 := grown_cell hg2 hm (by simp <;> omega)
      have H2 := Lib.hid h2; have HG2 := Lib.hid hg2
      have hk1 : ((p.fin + 1 : Nat) : Int) ≤ (s.size : Int) := by omega
      have hk2 : (0 : Int) ≤ ((p.fin + 1 : Nat) : Int) := by omega
      have HC := Lib.hid hcut; have HOK := Lib.hid hok2; have HR := Lib.hid hr
      simp only at d0 d1 d2 d3 d4
      clear e1 hcut hok2 hr hok h he h2 hg2 c0 c1 c2 c3 c4 hf hm
      obtain ⟨y, z, hcc⟩ := cutC (s.extract (p.fin + 1) s.size) mx W1 (Nat.le_trans (extract_size_le s _) hs) hm1
      rw [bl_extract, HC.out] at hcc
      have HCC := Lib.hid hcc
      clear hcc
      go_quiet ((go_at_call 50; exact HCC.out _))
      have hx := bs_size x
      have hx2 : ((p.fin + 1 : Nat) : Int) + (x.length : Int) ≤ 1000000 := by have := HOK.out.1; simp only at this; rw [bl_length] at this; omega
      have hw : IntKind.i64.wrap (((p.fin + 1 : Nat) : Int) + (x.length : Int)) = ((p.fin + 1 + x.length : Nat) : Int) := by rw [IntKind.wrap_i64]; omega
      have hw2 : IntKind.i64.wrap ((p.fin : Int) + 1 + (x.length : Int)) = ((p.fin + 1 + x.length : Nat) : Int) := by rw [IntKind.wrap_i64]; omega
      go_wp2_with fail
      have e2 : ((p.fin : Int) + 1 + (x.length : Int)) = ((p.fin + 1 + x.length : Nat) : Int) := by omega
      have h3 := Lib.hid (PSAt.set2 (H2.out.gr ((Gr.refl W1).drewN nq)) (p.fin + 1 + x.length) xs)
      have hg3 := Lib.hid (grown_trans HG2.out (grown_trans (grown_gr ((Gr.refl W1).drewN nq)) (grown_set (W1.drewN nq) b 2 (.int .i64 ((p.fin + 1 + x.length : Nat) : Int)))))
      go_ret2
      rw [e2]
      exact ⟨by rw [HF.out]; rfl, by rw [HF.out]; exact h3.out, hg3.out⟩
  · have HF : Hid (p.next s.size = (p, [], false)) := by show _ = _; unfold PS.next; rw [if_pos he]
    have e1 : (p.e == 0) = false := by simp [he]
    have e2 : (p.e != 0) = true := by simp [he]
    have H := Lib.hid h
    clear hend hok he hf
    go_enter Tryz.func108, Tryz.ntmps108
    go_wp2_with fail
    go_quiet (fail)
    go_wp2_with fail
    go_ret2
    exact ⟨by rw [HF.out]; rfl, by rw [HF.out]; exact H.out.gr ((Gr.refl w).drewN nq), grown_gr ((Gr.refl w).drewN nq)⟩
end Go.Proofs.YtcdcmohccbhchaaGreatDoor

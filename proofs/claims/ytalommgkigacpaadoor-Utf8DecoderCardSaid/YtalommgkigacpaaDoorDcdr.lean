/- The contracts of utf8.NewDecoder and of the Decoder's methods. -/
import Derived.Test.YtalommgkigacpaaDoorKnown
import Derived.Test.YtalommgkigacpaaDoorOrder
namespace Go.Proofs.YtalommgkigacpaaDoor
open Go.RowKit

/-- A Decoder in block b: its pending bytes, and whether it is closed. -/
def DecAt (w : World) (b : Nat) (p : ByteArray) (c : Bool) : Prop := w.heap[b]? = some (.cells #[.string p, .bool c] 79 (0, 0))
theorem DecAt.lt {w : World} {b : Nat} {p : ByteArray} {c : Bool} (h : DecAt w b p c) : b < w.heap.size := (Array.getElem?_eq_some_iff.1 h).1
theorem DecAt.cell0 {w : World} {b : Nat} {p : ByteArray} {c : Bool} (h : DecAt w b p c) : w.cell? ⟨b, 0, none⟩ = some (.string p) := by simp [World.cell?, show w.heap[b]? = _ from h]
theorem DecAt.cell1 {w : World} {b : Nat} {p : ByteArray} {c : Bool} (h : DecAt w b p c) : w.cell? ⟨b, 1, none⟩ = some (.bool c) := by simp [World.cell?, show w.heap[b]? = _ from h]
theorem DecAt.frozen {w : World} {b : Nat} {p : ByteArray} {c : Bool} (h : DecAt w b p c) (j : Nat) : w.frozen? ⟨b, j, none⟩ = false := by simp [World.frozen?, show w.heap[b]? = _ from h]
theorem DecAt.gr {w w' : World} {b : Nat} {p : ByteArray} {c : Bool} (h : DecAt w b p c) (hg : Gr w w') : DecAt w' b p c := (Below.block hg b h.lt).trans h
theorem DecAt.set0 {w : World} {b : Nat} {p : ByteArray} {c : Bool} (h : DecAt w b p c) (q : ByteArray) : DecAt (w.setCell ⟨b, 0, none⟩ (.string q)) b q c := by
  unfold DecAt at *
  simp only [World.setCell, Array.getElem?_modify, h]
  simp
theorem DecAt.set1 {w : World} {b : Nat} {p : ByteArray} {c : Bool} (h : DecAt w b p c) (d : Bool) : DecAt (w.setCell ⟨b, 1, none⟩ (.bool d)) b p d := by
  unfold DecAt at *
  simp only [World.setCell, Array.getElem?_modify, h]
  simp

set_option maxHeartbeats 400000 in
theorem newDec_any (w : World) : Calls Tryd.prog 31 #[] w fun e w' => e = .returned (.pointer (some ⟨w.heap.size, 0, none⟩)) ∧ DecAt w' w.heap.size ⟨#[]⟩ false ∧ Gr w w' := by
  go_enter Tryd.func31, Tryd.ntmps31
  go_wp2
  go_ret
  exact ⟨rfl, heap_alloc_new w _, (Gr.refl w).alloc _⟩

set_option maxHeartbeats 400000 in
theorem pending_any (b : Nat) (p : ByteArray) (c : Bool) (w : World) (h : DecAt w b p c) : Calls Tryd.prog 35 #[.pointer (some ⟨b, 0, none⟩)] w fun e w' => e = .returned (.int .i64 p.size) ∧ w = w' := by
  have c0 := h.cell0
  clear h
  go_enter Tryd.func35, Tryd.ntmps35
  go_wp2
  go_ret
  exact ⟨rfl, rfl⟩
set_option maxHeartbeats 400000 in
theorem pending_nil (w : World) : Calls Tryd.prog 35 #[.pointer none] w fun e w' => e = .returned (.int .i64 0) ∧ w = w' := by
  go_enter Tryd.func35, Tryd.ntmps35
  go_wp2
  go_ret
  exact ⟨rfl, rfl⟩
set_option maxHeartbeats 400000 in
theorem close_nil (w : World) : Calls Tryd.prog 33 #[.pointer none] w fun e w' => e = .returned (.int .i64 1) ∧ w = w' := by
  go_enter Tryd.func33, Tryd.ntmps33
  go_wp2
  go_ret
  exact ⟨rfl, rfl⟩
set_option maxHeartbeats 400000 in
theorem write_nil (v : Value) (w : World) : Calls Tryd.prog 32 #[.pointer none, v] w fun e w' => e = .returned (.tuple #[.string ⟨#[]⟩, .int .i64 1]) ∧ w = w' := by
  go_enter Tryd.func32, Tryd.ntmps32
  go_wp2
  go_ret2
  exact ⟨rfl, rfl⟩
set_option maxHeartbeats 400000 in
theorem close_closed (b : Nat) (p : ByteArray) (w : World) (h : DecAt w b p true) : Calls Tryd.prog 33 #[.pointer (some ⟨b, 0, none⟩)] w fun e w' => e = .returned (.int .i64 10) ∧ w = w' := by
  have c1 := h.cell1
  clear h
  go_enter Tryd.func33, Tryd.ntmps33
  go_wp2
  go_ret
  exact ⟨rfl, rfl⟩
set_option maxHeartbeats 400000 in
theorem close_pending (b : Nat) (p : ByteArray) (w : World) (h : DecAt w b p false) (_hp : ¬ p.toList = []) (_hp2 : p.toList.isEmpty = false) : Calls Tryd.prog 33 #[.pointer (some ⟨b, 0, none⟩)] w fun e w' => e = .returned (.int .i64 23) ∧ w = w' := by
  have c0 := h.cell0
  have c1 := h.cell1
  clear h
  go_enter Tryd.func33, Tryd.ntmps33
  go_wp2
  go_ret
  exact ⟨rfl, rfl⟩
set_option maxHeartbeats 400000 in
theorem close_ok (b : Nat) (p : ByteArray) (w : World) (h : DecAt w b p false) (hp : p.toList = []) (_hp2 : p.toList.isEmpty = true) : Calls Tryd.prog 33 #[.pointer (some ⟨b, 0, none⟩)] w fun e w' => e = .returned (.int .i64 0) ∧ DecAt w' b p true ∧ Below b w w' := by
  have c0 := h.cell0
  have c1 := h.cell1
  have f1 := h.frozen 1
  have H := Lib.hid h
  clear h
  go_enter Tryd.func33, Tryd.ntmps33
  go_wp2
  go_ret
  exact ⟨rfl, H.out.set1 true, (Below.refl b w).setCell (p := ⟨b, 1, none⟩) (Nat.le_refl _) _⟩

set_option maxHeartbeats 400000 in
theorem write_closed (b : Nat) (p : ByteArray) (v : Value) (w : World) (h : DecAt w b p true) : Calls Tryd.prog 32 #[.pointer (some ⟨b, 0, none⟩), v] w fun e w' => e = .returned (.tuple #[.string ⟨#[]⟩, .int .i64 10]) ∧ w = w' := by
  have c1 := h.cell1
  clear h
  go_enter Tryd.func32, Tryd.ntmps32
  go_wp2
  go_ret2
  exact ⟨rfl, rfl⟩

theorem ret_sb {s u : ByteArray} {n : Int} (h : s = u) : Ending.returned (.tuple #[.string s, .int .i64 n]) = .returned (.tuple #[.string u, .int .i64 n]) := by rw [h]
theorem all_of (s : ByteArray) (n : Nat) (h : s.size ≤ n) : s.extract 0 n = s := by
  apply bl_inj; rw [bl_take, List.take_of_length_le (by rw [bl_length]; exact h)]

set_option maxHeartbeats 1000000 in
/-- Write, where the bytes are valid. -/
theorem write_0 (b : Nat) (p t : ByteArray) (v : Value) (w : World) (h : DecAt w b p false) (hcv : ∀ n, (convert 38 9 v).run Tryd.prog (w.drewN n) = .ok (.string t) (w.drewN n)) (h1 : p.size ≤ 10000) (h2 : t.size ≤ 10000) (A : Nat) (hA : Hid (atOf 0 (bl (p ++ t)) = A)) (hE : Hid (errOf (bl (p ++ t)) = 0)) :
    Calls Tryd.prog 32 #[.pointer (some ⟨b, 0, none⟩), v] w fun e w' => e = .returned (.tuple #[.string (p ++ t), .int .i64 0]) ∧ DecAt w' b ByteArray.empty false ∧ Below b w w' := by
  have c0 := h.cell0
  have c1 := h.cell1
  have H := Lib.hid h
  clear h
  go_enter Tryd.func32, Tryd.ntmps32
  go_wp2_with fail
  go_quiet (fail)
  go_wp2_with fail
  refine (check_any _ _ (by rw [ByteArray.size_append]; omega)).mono ?_
  rintro e w1 ⟨rfl, hg1⟩
  rw [hE.out, hA.out]
  have hG := ((Gr.refl w).drewN _).trans hg1
  have D1 := H.out.gr hG
  have d0 := D1.cell0
  have f0 := D1.frozen 0
  have HD := Lib.hid D1
  have hbl := H.out.lt
  have hB : Below b w w1 := Below.mono hG (by omega)
  clear D1
  go_wp2_with fail
  go_ret2
  exact ⟨ret_sb (all_of _ _ (by rw [ByteArray.size_append]; exact Nat.le_refl _)), HD.out.set0 _, hB.setCell (p := ⟨b, 0, none⟩) (Nat.le_refl _) _⟩

set_option maxHeartbeats 1000000 in
/-- Write, where the bytes end in the middle of an encoding. -/
theorem write_23 (b : Nat) (p t : ByteArray) (v : Value) (w : World) (h : DecAt w b p false) (hcv : ∀ n, (convert 38 9 v).run Tryd.prog (w.drewN n) = .ok (.string t) (w.drewN n)) (h1 : p.size ≤ 10000) (h2 : t.size ≤ 10000) (A : Nat) (hA : Hid (atOf 0 (bl (p ++ t)) = A)) (hE : Hid (errOf (bl (p ++ t)) = 23)) (h3 : A ≤ p.size + t.size) :
    Calls Tryd.prog 32 #[.pointer (some ⟨b, 0, none⟩), v] w fun e w' => e = .returned (.tuple #[.string ((p ++ t).extract 0 A), .int .i64 0]) ∧ DecAt w' b ((p ++ t).extract A (p.size + t.size)) false ∧ Below b w w' := by
  have c0 := h.cell0
  have c1 := h.cell1
  have H := Lib.hid h
  clear h
  go_enter Tryd.func32, Tryd.ntmps32
  go_wp2_with fail
  go_quiet (fail)
  go_wp2_with fail
  refine (check_any _ _ (by rw [ByteArray.size_append]; omega)).mono ?_
  rintro e w1 ⟨rfl, hg1⟩
  rw [hE.out, hA.out]
  have hG := ((Gr.refl w).drewN _).trans hg1
  have D1 := H.out.gr hG
  have d0 := D1.cell0
  have f0 := D1.frozen 0
  have HD := Lib.hid D1
  have hbl := H.out.lt
  have hB : Below b w w1 := Below.mono hG (by omega)
  clear D1
  go_wp2_with fail
  go_ret2
  exact ⟨rfl, HD.out.set0 _, hB.setCell (p := ⟨b, 0, none⟩) (Nat.le_refl _) _⟩

set_option maxHeartbeats 1000000 in
/-- Write, where the bytes are not valid. -/
theorem write_err (b : Nat) (p t : ByteArray) (v : Value) (w : World) (h : DecAt w b p false) (hcv : ∀ n, (convert 38 9 v).run Tryd.prog (w.drewN n) = .ok (.string t) (w.drewN n)) (h1 : p.size ≤ 10000) (h2 : t.size ≤ 10000) (A : Nat) (hA : Hid (atOf 0 (bl (p ++ t)) = A)) (E : Int) (hE : Hid (errOf (bl (p ++ t)) = E)) (e0 : (E == 0) = false) (e23 : (E == 23) = false) :
    Calls Tryd.prog 32 #[.pointer (some ⟨b, 0, none⟩), v] w fun e w' => e = .returned (.tuple #[.string ⟨#[]⟩, .int .i64 E]) ∧ DecAt w' b p false ∧ Below b w w' := by
  have c0 := h.cell0
  have c1 := h.cell1
  have H := Lib.hid h
  clear h
  go_enter Tryd.func32, Tryd.ntmps32
  go_wp2_with fail
  go_quiet (fail)
  go_wp2_with fail
  refine (check_any _ _ (by rw [ByteArray.size_append]; omega)).mono ?_
  rintro e w1 ⟨rfl, hg1⟩
  rw [hE.out, hA.out]
  have hG := ((Gr.refl w).drewN _).trans hg1
  have D1 := H.out.gr hG
  have d0 := D1.cell0
  have f0 := D1.frozen 0
  have HD := Lib.hid D1
  have hbl := H.out.lt
  have hB : Below b w w1 := Below.mono hG (by omega)
  clear D1
  go_wp2_with fail
  go_ret2
  exact ⟨rfl, HD.out, hB⟩
end Go.Proofs.YtalommgkigacpaaDoor

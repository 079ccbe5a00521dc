/- The walk of the law Utf8Printable: it returns true, and nothing that was there turns. -/
import Derived.Test.YtalommgkigacpaaDoorPrint
namespace Go.Proofs.YtalommgkigacpaaDoor
open Go.RowKit

/-- A slice of numbers, nil or not, as the walk reads it. -/
theorem Ints.form {w : World} {base : Nat} {u : Value} {xs : List Int} (h : Ints w base u xs) :
    ∃ a cap, u = .slice a xs.length cap ∧ ∀ j (hj : j < xs.length), ∃ g, a = some ⟨g, 0, none⟩ ∧ g < w.heap.size ∧ w.cell? ⟨g, j, none⟩ = some (.int .i64 xs[j]) := by
  rcases h.2 with ⟨hv, h0⟩ | ⟨g, cap, cur, hv, hb, hg, _, _, _, ht⟩
  · exact ⟨none, 0, by rw [hv, h0], fun j hj => by omega⟩
  · refine ⟨some ⟨g, 0, none⟩, cap, hv, fun j hj => ⟨g, rfl, (Array.getElem?_eq_some_iff.1 hg).1, ?_⟩⟩
    have hc := World.ownsRow.cells h (g := g) (by rw [hv]; rfl) j (.int .i64 xs[j]) (by simp [hj])
    have e : (⟨g, 0, none⟩ : Addr).add j = ⟨g, j, none⟩ := by unfold Addr.add; split <;> simp_all
    rw [e] at hc
    exact hc

def allTo (b : Bool) (xs : List Int) (k : Nat) : Bool := b && (xs.take k).all fun r => !ctlB r
theorem allTo_succ (b : Bool) (xs : List Int) (k : Nat) (h : k < xs.length) : allTo b xs (k + 1) = (allTo b xs k && !ctlB xs[k]) := by
  unfold allTo; rw [List.take_succ_eq_append_getElem h, List.all_append]; simp [Bool.and_assoc]

set_option maxHeartbeats 1000000 in
set_option maxRecDepth 100000 in
theorem utf8Printable_walk (s : ByteArray) (w : World) (hT : Tab w) (hs : s.size ≤ 140737488351232) :
    Calls Tryd.prog 9 #[.string s] w fun e w' => e = .returned (.bool true) ∧ Gr w w' := by
  have T0 := Lib.hid hT
  have hz : (shortB s 300).size ≤ 300 := by rw [shortB_size]; omega
  clear hT
  go_enter Tryd.func9, Tryd.ntmps9
  go_wp2_with fail
  refine (short_any s 300 _ hs (by decide)).mono ?_
  rintro e w' ⟨rfl, rfl⟩
  generalize shortB s 300 = t at *
  go_wp2_with fail
  refine (all_any t _ (by omega)).mono ?_
  rintro e w1 ⟨u, v, rfl, hu, _, hg1⟩
  have T1 := Lib.hid (T0.out.gr hg1)
  have hP := print_any t
  have HP := Lib.hid hP
  clear hP
  have hpr : Hid (prB (bl t) = allTo (errOf (bl t) == 0) (runOf (bl t)) (runOf (bl t)).length) := by
    show _ = _; unfold prB allTo; rw [List.take_length]
  have hlen : (runOf (bl t)).length ≤ 300 := by have := len_run (bl t); rw [bl_length] at this; omega
  obtain ⟨a, cap, rfl, hcl⟩ := hu.form
  have HCL := Lib.hid hcl
  clear hcl hu
  generalize runOf (bl t) = xs at *
  generalize errOf (bl t) = E at *
  generalize atOf 0 (bl t) = A at *
  generalize hB0 : (E == 0) = B0 at *
  go_wp2_with fail
  go_loop [7, 8] (fun want i => ∃ k : Nat, k ≤ xs.length ∧ i = .int .i64 k ∧ want = .bool (allTo B0 xs k)) (fun _ i => xs.length - (intOf i).toNat)
  case atStart => exact ⟨0, Nat.zero_le _, rfl, by simp [allTo]⟩
  case round =>
    obtain ⟨k, hk, rfl, rfl⟩ := hrel
    clear hB0
    by_cases c : k < xs.length
    · obtain ⟨g, rfl, hgl, hc⟩ := HCL.out k c
      have hS := Lib.hid (allTo_succ B0 xs k c)
      cases hb : allTo B0 xs k with
      | true =>
        have HB := Lib.hid hb
        clear hb
        go_wp2_with fail
        refine (control_any _ _).mono ?_
        rintro e w2 ⟨rfl, rfl⟩
        go_wp2_with fail
        exact ⟨⟨k + 1, by omega, by go_num, by rw [hS.out, HB.out]; rfl⟩, by simp [intOf]; omega⟩
      | false =>
        have HB := Lib.hid hb
        clear hb
        go_wp2_with fail
        exact ⟨⟨k + 1, by omega, by go_num, by rw [hS.out, HB.out]; rfl⟩, by simp [intOf]; omega⟩
    · obtain rfl : k = xs.length := by omega
      clear HCL c
      go_wp2_with fail
      refine (known_any _ T1.out).mono ?_
      rintro e w2 ⟨rfl, hg2⟩
      go_wp2_with fail
      refine (HP.out _ (by omega)).mono ?_
      rintro e w3 ⟨rfl, hg3⟩
      rw [hpr.out]
      go_wp2_with fail
      go_ret
      exact ⟨rfl, (hg1.trans hg2).trans hg3⟩
end Go.Proofs.YtalommgkigacpaaDoor

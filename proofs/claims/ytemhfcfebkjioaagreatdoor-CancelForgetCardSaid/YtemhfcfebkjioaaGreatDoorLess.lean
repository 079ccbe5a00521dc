/- The statement's less: what it returns. -/
import Derived.Test.YtemhfcfebkjioaaGreatDoorOrder
import Derived.Laws.IdiomStrings
namespace Go.Proofs.YtemhfcfebkjioaaGreatDoor
open Go.RowKit

/-- An identity as a string. -/
def sB (x : Id) : ByteArray := ⟨x.toList.toArray⟩
def lessB (x y : Id) : Bool := Op.bytesLess (sB x).toList (sB y).toList
theorem lessB_num (x y : Id) : lessB x y = decide (nm x < nm y) := by
  unfold lessB sB
  rw [cmp_less, Lib.toList_data, Lib.toList_data]
  show decide (cmpB x y < 0) = _
  rw [cmpB_num]; unfold cmpI
  rw [decide_eq_decide]
  repeat' split
  all_goals omega
set_option maxRecDepth 100000 in
set_option maxHeartbeats 1000000 in
theorem lessC (x y : Id) (w : World) : Calls Tryz.prog 44 #[.agg (bC x).toArray, .agg (bC y).toArray] w fun e w' => e = .returned (.bool (lessB x y)) ∧ Lay w w' := by
  have hb1 := bytesAt_new w 32 23 w.heap.size x rfl
  have hb1' : BytesAt ((w.alloc (.cells (bC x).toArray 23)).alloc (.cells (bC y).toArray 23)) w.heap.size 0 x.toList := hb1.gr ((Gr.refl _).alloc _) (by simp)
  have hb2 := bytesAt_new (w.alloc (.cells (bC x).toArray 23)) 32 23 (w.heap.size + 1) y (by simp)
  have hl : Lay w ((w.alloc (.cells (bC x).toArray 23)).alloc (.cells (bC y).toArray 23)) := ((Lay.refl w).alloc _).alloc _
  generalize hW : (w.alloc (.cells (bC x).toArray 23)).alloc (.cells (bC y).toArray 23) = W at *
  have c1 : ∀ n, (convert 141 9 (.slice (some ⟨w.heap.size, 0, none⟩) 32 32)).run Tryz.prog (W.drewN n) = .ok (.string (sB x)) (W.drewN n) := fun n => by
    have h := run_convert_bytes_back (P := Tryz.prog) (W.drewN n) 141 9 5 ⟨w.heap.size, 0, none⟩ 32 x.toList Tryz.underlying141 Tryz.underlying5 Tryz.underlying9 (fun j hj => by rw [Addr.add_lit]; exact hb1' j hj)
    rwa [toList_len] at h
  have c2 : ∀ n, (convert 141 9 (.slice (some ⟨w.heap.size + 1, 0, none⟩) 32 32)).run Tryz.prog (W.drewN n) = .ok (.string (sB y)) (W.drewN n) := fun n => by
    have h := run_convert_bytes_back (P := Tryz.prog) (W.drewN n) 141 9 5 ⟨w.heap.size + 1, 0, none⟩ 32 y.toList Tryz.underlying141 Tryz.underlying5 Tryz.underlying9 (fun j hj => by rw [Addr.add_lit]; exact hb2 j hj)
    rwa [toList_len] at h
  have HW := Lib.hid hW
  have HL := Lib.hid hl
  clear hb1 hb1' hb2 hl hW
  have HB : Hid (lessB x y = Op.bytesLess (sB x).toList (sB y).toList) := rfl
  generalize sB x = sx at *
  generalize sB y = sy at *
  go_enter Tryz.func44, Tryz.ntmps44
  go_wp2_with fail
  rw [HW.out]
  go_quiet (fail)
  go_wp2_with fail
  go_ret
  exact ⟨ret_bool HB.out.symm, HL.out.drewN _⟩
end Go.Proofs.YtemhfcfebkjioaaGreatDoor

/- The comparing functions of identities, definitions and cancellations: what each returns; blocks and draws alone are left behind. -/
import Derived.Test.YtemhfcfebkjioaaGreatDoorClass
import Derived.Laws.Externs
namespace Go.Proofs.YtemhfcfebkjioaaGreatDoor
open Go.RowKit

theorem run_loadBytes {P : Program} (w : World) (b : Nat) : ∀ (x : List UInt8) (k : Nat) (acc : ByteArray), BytesAt w b k x → (Extern.Bytes.loadBytes ⟨b, k, none⟩ x.length acc).run P w = .ok ⟨acc.data ++ x.toArray⟩ w
  | [], k, acc, _ => by simp [Extern.Bytes.loadBytes]
  | c :: x, k, acc, h => by
    have h0 := h 0 (by simp)
    have ih := run_loadBytes (P := P) w b x (k + 1) (acc.push c) (fun j hj => by
      have := h (j + 1) (by simpa using hj)
      rw [show k + 1 + j = k + (j + 1) by omega]; simpa using this)
    have e : (⟨b, k, none⟩ : Addr).add 1 = ⟨b, k + 1, none⟩ := Addr.add_lit b k 1
    simp only [Nat.add_zero, List.getElem_cons_zero] at h0
    have e2 : ((c.toNat : Int).toNat.toUInt8) = c := by simp
    simp only [List.length_cons, Extern.Bytes.loadBytes, Sem.run_bind, run_load, h0, Result.andThen, e, e2, ih]
    congr 1
    simp [ByteArray.push]

theorem run_compareBytes {P : Program} (w : World) (b1 k1 c1 b2 k2 c2 : Nat) (x y : List UInt8) (h1 : BytesAt w b1 k1 x) (h2 : BytesAt w b2 k2 y) :
    (Extern.BytealgCompare.compare #[.slice (some ⟨b1, k1, none⟩) x.length c1, .slice (some ⟨b2, k2, none⟩) y.length c2]).run P w = .ok (.int .i64 (Lib.compareBytes x y)) w := by
  change Sem.run P (do pure (goInt (Extern.BytealgCompare.cmp (← Extern.Bytes.bytesOf (.slice (some ⟨b1, k1, none⟩) x.length c1)) (← Extern.Bytes.bytesOf (.slice (some ⟨b2, k2, none⟩) y.length c2))))) w = _
  simp only [Extern.Bytes.bytesOf, Sem.run_bind, run_loadBytes w b1 x k1 _ h1, run_loadBytes w b2 y k2 _ h2, Sem.run_pure, Result.andThen]
  rw [Lib.cmp_eq]
  simp [goInt]

set_option maxRecDepth 100000 in
set_option maxHeartbeats 1000000 in
theorem bytesCompare (b1 k1 c1 b2 k2 c2 : Nat) (x y : List UInt8) (w : World) (h1 : BytesAt w b1 k1 x) (h2 : BytesAt w b2 k2 y) :
    Calls Tryz.prog 166 #[.slice (some ⟨b1, k1, none⟩) x.length c1, .slice (some ⟨b2, k2, none⟩) y.length c2] w fun e w' => e = .returned (.int .i64 (Lib.compareBytes x y)) ∧ w = w' := by
  have hr := Lib.hid (run_compareBytes (P := Tryz.prog) w b1 k1 c1 b2 k2 c2 x y h1 h2)
  clear h1 h2
  go_enter Tryz.func166, Tryz.ntmps166
  go_wp2_with fail
  rw [run_callFunc_extern Tryz.func211 (by kernel_rfl) (by kernel_rfl) (by kernel_rfl) (e := Extern.BytealgCompare.compare) (by kernel_rfl), hr.out]
  simp only [Result.andThen]
  rw [Oper.upon_value]
  go_wp2
  go_ret
  exact ⟨rfl, rfl⟩

theorem toList_len {n : Nat} (x : Vector UInt8 n) : x.toList.length = n := by simp

set_option maxRecDepth 100000 in
set_option maxHeartbeats 1000000 in
theorem compareIds (x y : Id) (w : World) : Calls Tryz.prog 43 #[.agg (bC x).toArray, .agg (bC y).toArray] w fun e w' => e = .returned (.int .i64 (cmpB x y)) ∧ Lay w w' := by
  have hb1 := bytesAt_new w 32 23 w.heap.size x rfl
  have hb1' : BytesAt ((w.alloc (.cells (bC x).toArray 23)).alloc (.cells (bC y).toArray 23)) w.heap.size 0 x.toList := hb1.gr ((Gr.refl _).alloc _) (by simp)
  have hb2 := bytesAt_new (w.alloc (.cells (bC x).toArray 23)) 32 23 (w.heap.size + 1) y (by simp)
  have hl : Lay w ((w.alloc (.cells (bC x).toArray 23)).alloc (.cells (bC y).toArray 23)) := ((Lay.refl w).alloc _).alloc _
  generalize hW : (w.alloc (.cells (bC x).toArray 23)).alloc (.cells (bC y).toArray 23) = W at *
  have HC := Lib.hid (fun n => compareSl w.heap.size 0 32 (w.heap.size + 1) 0 32 x.toList y.toList (W.drewN n) (fun j hj => hb1' j hj) (fun j hj => hb2 j hj) (by simp) (by simp))
  simp only [toList_len] at HC
  have HW := Lib.hid hW
  have HL := Lib.hid hl
  clear hb1 hb1' hb2 hl hW
  go_enter Tryz.func43, Tryz.ntmps43
  go_wp2_with fail
  rw [HW.out]
  go_quiet ((go_at_call 71; exact still_call (HC.out _)))
  go_wp2_with fail
  go_ret
  exact ⟨rfl, HL.out.drewN _⟩

set_option maxRecDepth 100000 in
set_option maxHeartbeats 1000000 in
theorem msgidCompare (x y : Id) (w : World) : Calls Tryz.prog 153 #[.agg (bC x).toArray, .agg (bC y).toArray] w fun e w' => e = .returned (.int .i64 (cmpB x y)) ∧ Lay w w' := by
  have hb1 := bytesAt_new w 32 23 w.heap.size x rfl
  have hb1' : BytesAt ((w.alloc (.cells (bC x).toArray 23)).alloc (.cells (bC y).toArray 23)) w.heap.size 0 x.toList := hb1.gr ((Gr.refl _).alloc _) (by simp)
  have hb2 := bytesAt_new (w.alloc (.cells (bC x).toArray 23)) 32 23 (w.heap.size + 1) y (by simp)
  have hl : Lay w ((w.alloc (.cells (bC x).toArray 23)).alloc (.cells (bC y).toArray 23)) := ((Lay.refl w).alloc _).alloc _
  generalize hW : (w.alloc (.cells (bC x).toArray 23)).alloc (.cells (bC y).toArray 23) = W at *
  have HC := Lib.hid (fun n => bytesCompare w.heap.size 0 32 (w.heap.size + 1) 0 32 x.toList y.toList (W.drewN n) (fun j hj => hb1' j hj) (fun j hj => hb2 j hj))
  simp only [toList_len] at HC
  have HW := Lib.hid hW
  have HL := Lib.hid hl
  clear hb1 hb1' hb2 hl hW
  go_enter Tryz.func153, Tryz.ntmps153
  go_wp2_with fail
  rw [HW.out]
  go_quiet ((go_at_call 166; exact still_call (HC.out _)))
  go_wp2_with fail
  go_ret
  exact ⟨rfl, HL.out.drewN _⟩

/-- The order of cancellations, and of definitions. -/
def cfC (a b : Canc) : Int := orI (cmpI a.date b.date) (cmpB a.id b.id)
def cfP (a b : Dfn) : Int := orI (cmpI b.version a.version) (cmpB a.id b.id)
def cfD (a b : Dfn) : Int := orI (cmpS a.group b.group) (cfP a b)

theorem Lay.cellK {u u' : World} (h : Lay u u') {p : Addr} {v : Value} (hc : u.cell? p = some v) : u'.cell? p = some v := (h.1.cell (World.block_lt_of_cell? u p hc)).trans hc
theorem Lay.rangeK {u u' : World} (h : Lay u u') {b o : Nat} {cs : List Value} (hc : u.rangeAt b o cs) : u'.rangeAt b o cs := fun j v hv => h.cellK (hc j v hv)
theorem rangeAt_block {w : World} {b : Nat} {cs l : List Value} {t : TypeId} {fr : Nat × Nat} (h : w.heap[b]? = some (.cells cs.toArray t fr)) (k n : Nat) (_hn : k + n ≤ cs.length) (hl : rowOf cs k n = l) : w.rangeAt b k l := by
  intro j v hv
  rw [cell_block h]
  rw [← hl, rowOf, List.getElem?_take, List.getElem?_drop] at hv
  split at hv
  · exact hv
  · cases hv

/-- Two boxes. -/
theorem box2 (w : World) (t : TypeId) (A B : List Value) : Lay w ((w.alloc (.cells A.toArray t)).alloc (.cells B.toArray t)) ∧ w.heap.size + 1 < ((w.alloc (.cells A.toArray t)).alloc (.cells B.toArray t)).heap.size ∧
    ((w.alloc (.cells A.toArray t)).alloc (.cells B.toArray t)).heap[w.heap.size]? = some (.cells A.toArray t (0, 0)) ∧ ((w.alloc (.cells A.toArray t)).alloc (.cells B.toArray t)).heap[w.heap.size + 1]? = some (.cells B.toArray t (0, 0)) :=
  ⟨((Lay.refl w).alloc _).alloc _, by simp, heap_alloc2_old w _ _, heap_alloc2_new w _ _⟩

set_option maxRecDepth 100000 in
set_option maxHeartbeats 2000000 in
theorem byCmp (a b : Canc) (w : World) : Calls Tryz.prog 40 #[.agg (cancC a).toArray, .agg (cancC b).toArray] w fun e w' => e = .returned (.int .i64 (cfC a b)) ∧ Lay w w' := by
  obtain ⟨hl, s2, h1, h2⟩ := box2 w 27 (cancC a) (cancC b)
  have HL := Lib.hid hl
  clear hl
  go_enter Tryz.func40, Tryz.ntmps40
  go_wp2_with fail
  generalize (w.alloc (.cells (cancC a).toArray 27)).alloc (.cells (cancC b).toArray 27) = W at *
  have r1 : W.cell? ⟨w.heap.size, 48, none⟩ = some (.int .i64 a.date) := (cell_block h1 48).trans (canc_date a)
  have r2 : W.cell? ⟨w.heap.size + 1, 48, none⟩ = some (.int .i64 b.date) := (cell_block h2 48).trans (canc_date b)
  have r3 : hasRow W ⟨w.heap.size, 0, none⟩ 32 = true := hasRow_block h1 0 32 (by rw [cancC_length]; decide)
  have r4 : hasRow W ⟨w.heap.size + 1, 0, none⟩ 32 = true := hasRow_block h2 0 32 (by rw [cancC_length]; decide)
  have r5 : rowAt W ⟨w.heap.size, 0, none⟩ 32 = bC a.id := (rowAt_block h1 0 32 (by rw [cancC_length]; decide)).trans (canc_id a)
  have r6 : rowAt W ⟨w.heap.size + 1, 0, none⟩ 32 = bC b.id := (rowAt_block h2 0 32 (by rw [cancC_length]; decide)).trans (canc_id b)
  have s1 : w.heap.size < W.heap.size := by omega
  clear h1 h2
  refine wp_region_tail 10 (fun u => ∃ p : LD, u = lw W p) (by kernel_rfl) (by kernel_rfl) (cl_drew W) ?_
  simp only [List.take_succ_cons, List.take_zero, List.drop_succ_cons, List.drop_zero]
  repeat (go_big_quiet_step (first | (go_at_call 42; exact lay_same (compareI _ _ _)) | (go_at_call 43; exact lay_call (compareIds _ _ _))))
  refine wpQuiet_nil ?_
  rintro _ ⟨p, rfl⟩
  have hp := Lib.hid (HL.out.trans (lay_lw W p))
  generalize lw W p = U at *
  go_wp2_with fail
  refine (or2 _ (cmpI a.date b.date) (cmpB a.id b.id) _ (by go_simp) (by go_simp)).mono ?_
  rintro e w' ⟨rfl, rfl⟩
  go_wp2_with fail
  go_ret
  exact ⟨rfl, hp.out.alloc _⟩

set_option maxRecDepth 100000 in
set_option maxHeartbeats 2000000 in
theorem precedesC (a b : Dfn) (w : World) : Calls Tryz.prog 111 #[.agg (dfnC a).toArray, .agg (dfnC b).toArray] w fun e w' => e = .returned (.int .i64 (cfP a b)) ∧ Lay w w' := by
  obtain ⟨hl, s2, h1, h2⟩ := box2 w 52 (dfnC a) (dfnC b)
  have HL := Lib.hid hl
  clear hl
  go_enter Tryz.func111, Tryz.ntmps111
  go_wp2_with fail
  generalize (w.alloc (.cells (dfnC a).toArray 52)).alloc (.cells (dfnC b).toArray 52) = W at *
  have r1 : W.cell? ⟨w.heap.size, 49, none⟩ = some (.int .i64 a.version) := (cell_block h1 49).trans (dfn_version a)
  have r2 : W.cell? ⟨w.heap.size + 1, 49, none⟩ = some (.int .i64 b.version) := (cell_block h2 49).trans (dfn_version b)
  have r3 : hasRow W ⟨w.heap.size, 0, none⟩ 32 = true := hasRow_block h1 0 32 (by rw [dfnC_length]; decide)
  have r4 : hasRow W ⟨w.heap.size + 1, 0, none⟩ 32 = true := hasRow_block h2 0 32 (by rw [dfnC_length]; decide)
  have r5 : rowAt W ⟨w.heap.size, 0, none⟩ 32 = bC a.id := (rowAt_block h1 0 32 (by rw [dfnC_length]; decide)).trans (dfn_id a)
  have r6 : rowAt W ⟨w.heap.size + 1, 0, none⟩ 32 = bC b.id := (rowAt_block h2 0 32 (by rw [dfnC_length]; decide)).trans (dfn_id b)
  have s1 : w.heap.size < W.heap.size := by omega
  clear h1 h2
  refine wp_region_tail 10 (fun u => ∃ p : LD, u = lw W p) (by kernel_rfl) (by kernel_rfl) (cl_drew W) ?_
  simp only [List.take_succ_cons, List.take_zero, List.drop_succ_cons, List.drop_zero]
  repeat (go_big_quiet_step (first | (go_at_call 42; exact lay_same (compareI _ _ _)) | (go_at_call 153; exact lay_call (msgidCompare _ _ _))))
  refine wpQuiet_nil ?_
  rintro _ ⟨p, rfl⟩
  have hp := Lib.hid (HL.out.trans (lay_lw W p))
  generalize lw W p = U at *
  go_wp2_with fail
  refine (or2 _ (cmpI b.version a.version) (cmpB a.id b.id) _ (by go_simp) (by go_simp)).mono ?_
  rintro e w' ⟨rfl, rfl⟩
  go_wp2_with fail
  go_ret
  exact ⟨rfl, hp.out.alloc _⟩

set_option maxRecDepth 100000 in
set_option maxHeartbeats 2000000 in
theorem pickCmp (a b : Dfn) (w : World) : Calls Tryz.prog 109 #[.agg (dfnC a).toArray, .agg (dfnC b).toArray] w fun e w' => e = .returned (.int .i64 (cfD a b)) ∧ Lay w w' := by
  obtain ⟨hl, s2, h1, h2⟩ := box2 w 52 (dfnC a) (dfnC b)
  have HL := Lib.hid hl
  clear hl
  go_enter Tryz.func109, Tryz.ntmps109
  go_wp2_with fail
  generalize (w.alloc (.cells (dfnC a).toArray 52)).alloc (.cells (dfnC b).toArray 52) = W at *
  have r1 : W.cell? ⟨w.heap.size, 48, none⟩ = some (.string a.group) := (cell_block h1 48).trans (dfn_group a)
  have r2 : W.cell? ⟨w.heap.size + 1, 48, none⟩ = some (.string b.group) := (cell_block h2 48).trans (dfn_group b)
  have r3 : hasRow W ⟨w.heap.size, 0, none⟩ 54 = true := hasRow_block h1 0 54 (by rw [dfnC_length]; decide)
  have r4 : hasRow W ⟨w.heap.size + 1, 0, none⟩ 54 = true := hasRow_block h2 0 54 (by rw [dfnC_length]; decide)
  have r5 : rowAt W ⟨w.heap.size, 0, none⟩ 54 = dfnC a := (rowAt_block h1 0 54 (by rw [dfnC_length]; decide)).trans (dfn_whole a)
  have r6 : rowAt W ⟨w.heap.size + 1, 0, none⟩ 54 = dfnC b := (rowAt_block h2 0 54 (by rw [dfnC_length]; decide)).trans (dfn_whole b)
  have s1 : w.heap.size < W.heap.size := by omega
  clear h1 h2
  refine wp_region_tail 8 (fun u => ∃ p : LD, u = lw W p) (by kernel_rfl) (by kernel_rfl) (cl_drew W) ?_
  simp only [List.take_succ_cons, List.take_zero, List.drop_succ_cons, List.drop_zero]
  repeat (go_big_quiet_step (first | (go_at_call 110; exact lay_same (compareS _ _ _)) | (go_at_call 111; exact lay_call (precedesC _ _ _))))
  refine wpQuiet_nil ?_
  rintro _ ⟨p, rfl⟩
  have hp := Lib.hid (HL.out.trans (lay_lw W p))
  generalize lw W p = U at *
  go_wp2_with fail
  refine (or2 _ (cmpS a.group b.group) (cfP a b) _ (by go_simp) (by go_simp)).mono ?_
  rintro e w' ⟨rfl, rfl⟩
  go_wp2_with fail
  go_ret
  exact ⟨rfl, hp.out.alloc _⟩
end Go.Proofs.YtemhfcfebkjioaaGreatDoor

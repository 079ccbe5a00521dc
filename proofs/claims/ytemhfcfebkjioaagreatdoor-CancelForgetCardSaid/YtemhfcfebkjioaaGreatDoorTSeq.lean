/- Tombs.All: all cancellations in increasing order of their identities. -/
import Derived.Test.YtemhfcfebkjioaaGreatDoorTAdd
import Derived.Test.YtemhfcfebkjioaaGreatDoorSortI
import Derived.RangeFuncNested
import Derived.RangeFuncBound
import Derived.RangeFuncCalls
import Derived.RangeFuncLeaves
import Derived.RangeFuncWrites
import Derived.RangeFuncBox
import Derived.Shelf.Abstract
import Derived.Shelf.RegionOpen
import Derived.OwnWalkIn
import Derived.TacticsInMore
import Derived.LoopNIn
import Derived.LoopIn
import Derived.Sort.MapsRangeIn
import Derived.Maps.AppendAt
namespace Go.Proofs.YtemhfcfebkjioaaGreatDoor
section
open Go.RowKit

/-- What has come out of the map so far, each once. -/
def OutRel (l : List Canc) (left : Lit → Bool) (acc : List Canc) : Prop :=
  (∀ k, left k = true → ∃ y ∈ l, k = kl y.id) ∧ (∀ y, y ∈ acc ↔ y ∈ l ∧ left (kl y.id) = false) ∧ acc.Nodup
theorem out_start {w : World} {bm n : Nat} {D : DataW Value} {l : List Canc} (h : Tmb w bm n D l) : OutRel l (Maps.has D) [] := by
  refine ⟨fun k hk => (h.has k).1 hk, fun y => ⟨fun hy => absurd hy (by simp), ?_⟩, List.nodup_nil⟩
  rintro ⟨h1, h2⟩
  have := (h.has (kl y.id)).2 ⟨y, h1, rfl⟩
  rw [this] at h2; cases h2
theorem out_step {l : List Canc} {left : Lit → Bool} {acc : List Canc} (hap : l.Pairwise fun y y' => y.id ≠ y'.id) (h : OutRel l left acc) {e : Canc} (he : e ∈ l) (hl : left (kl e.id) = true) : OutRel l (fun z => left z && !z.sameKey (kl e.id)) (acc ++ [e]) := by
  have hno : e ∉ acc := fun q => by have := ((h.2.1 e).1 q).2; rw [hl] at this; cases this
  refine ⟨fun k hk => h.1 k (by simp at hk; exact hk.1), fun y => ?_, ?_⟩
  · rw [List.mem_append, List.mem_singleton, h.2.1]
    constructor
    · rintro (⟨h1, h2⟩ | rfl)
      · exact ⟨h1, by simp [h2]⟩
      · exact ⟨he, by show (left (kl y.id) && !(kl y.id).sameKey (kl y.id)) = false; rw [sameKey_iff]; simp⟩
    · rintro ⟨h1, h2⟩
      simp only [Bool.and_eq_false_iff, Bool.not_eq_false'] at h2
      rcases h2 with h2 | h2
      · exact .inl ⟨h1, h2⟩
      · rw [sameKey_iff] at h2
        exact .inr (apart_eq hap h1 he (by simpa using h2))
  · rw [List.nodup_append]
    exact ⟨h.2.2, by simp, fun a ha b hb => by simp at hb; subst hb; exact fun q => hno (q ▸ ha)⟩
theorem apart_nodup {l : List Canc} (h : l.Pairwise fun y y' => y.id ≠ y'.id) : l.Nodup := h.imp fun h e => h (by rw [e])
theorem out_end {l : List Canc} {left : Lit → Bool} {acc : List Canc} (hap : l.Pairwise fun y y' => y.id ≠ y'.id) (h : OutRel l left acc) (hl : ∀ k, left k = false) : acc.Perm l :=
  (List.perm_ext_iff_of_nodup h.2.2 (apart_nodup hap)).2 fun y => by rw [h.2.1]; exact ⟨fun q => q.1, fun q => ⟨q, hl _⟩⟩

/-! ### equality of cancellations -/
def cancEq (a b : Canc) : Bool := a.id == b.id && (a.author == b.author && (a.date == b.date && a.target == b.target))
theorem cancEq_iff (a b : Canc) : cancEq a b = true ↔ a = b := by
  unfold cancEq
  cases a; cases b
  simp
theorem part_row {P : Program} (w : World) {t : TypeId} (h : aggB P t = true) (cs : List Value) (k : Nat) : (part t cs.toArray k).run P w = .ok (.agg (rowOf cs k (P.cellsOf t)).toArray) w := by
  simp [part, Sem.run_bind, run_isAgg h, run_sizeOf' h, rowOf]
theorem part_date (y : Canc) (w : World) : (part 3 (cancC y).toArray 48).run Tryz.prog w = .ok (.int .i64 y.date) w := by
  have h := canc_date y
  simp [part, isAgg, run_underlying Tryz.underlying3, h]
theorem eqF_step {P : Program} {w : World} {d : Nat} {xs ys : Array Value} {f : Field} {fs : List Field} {a b : Value} {r s : Bool} (hn : f.name ≠ "_") (ha : (part f.type xs f.offset).run P w = .ok a w) (hb : (part f.type ys f.offset).run P w = .ok b w) (hr : (Op.equalIn d f.type a b).run P w = .ok r w) (hs : (Op.eqFields d xs ys fs).run P w = .ok s w) :
    (Op.eqFields d xs ys (f :: fs)).run P w = .ok (r && s) w := by
  rw [Op.eqFields, if_pos hn]
  simp only [Sem.run_bind, ha, hb, hr, Result.andThen_ok]
  cases r
  · rfl
  · exact hs
theorem part_id (y : Canc) (w : World) : (part 23 (cancC y).toArray 0).run Tryz.prog w = .ok (.agg (bC y.id).toArray) w := by
  rw [part_row w aggId, cellsId, canc_id]
theorem part_author (y : Canc) (w : World) : (part 25 (cancC y).toArray 32).run Tryz.prog w = .ok (.agg (bC y.author).toArray) w := by
  rw [part_row w aggAut, cellsAut, canc_author]
theorem part_target (y : Canc) (w : World) : (part 23 (cancC y).toArray 49).run Tryz.prog w = .ok (.agg (bC y.target).toArray) w := by
  rw [part_row w aggId, cellsId, canc_target]
theorem eq9Id (a b : Id) (w : World) : Sem.run Tryz.prog (Op.equalIn 9999 23 (.agg (bC a).toArray) (.agg (bC b).toArray)) w = .ok (a == b) w := run_equalIn_bytes w 9997 Tryz.underlying23 Tryz.underlying5 cellsByte a b
theorem eq9Aut (a b : Aut) (w : World) : Sem.run Tryz.prog (Op.equalIn 9999 25 (.agg (bC a).toArray) (.agg (bC b).toArray)) w = .ok (a == b) w := run_equalIn_bytes w 9997 Tryz.underlying25 Tryz.underlying5 cellsByte a b
theorem eq9Int (a b : Int) (w : World) : Sem.run Tryz.prog (Op.equalIn 9999 3 (.int .i64 a) (.int .i64 b)) w = .ok (a == b) w := run_equalIn_int w 9998 _ _ _ a b Tryz.underlying3
theorem eqF_canc (x y : Canc) (w : World) : (Op.eqFields 9999 (cancC x).toArray (cancC y).toArray (Tryz.prog.fieldsOf 27).toList).run Tryz.prog w = .ok (x.id == y.id && (x.author == y.author && (x.date == y.date && (x.target == y.target && true)))) w := by
  simp only [Program.fieldsOf, Tryz.underlying27]
  refine eqF_step (by decide) (part_id x w) (part_id y w) (eq9Id _ _ w) ?_
  refine eqF_step (by decide) (part_author x w) (part_author y w) (eq9Aut _ _ w) ?_
  refine eqF_step (by decide) (part_date x w) (part_date y w) (eq9Int _ _ w) ?_
  exact eqF_step (by decide) (part_target x w) (part_target y w) (eq9Id _ _ w) rfl
theorem eqS_canc (x y : Canc) (w : World) : Sem.run Tryz.prog (Op.equalIn 10000 27 (.agg (cancC x).toArray) (.agg (cancC y).toArray)) w = (Op.eqFields 9999 (cancC x).toArray (cancC y).toArray (Tryz.prog.fieldsOf 27).toList).run Tryz.prog w := run_equalIn_struct w 9999 27 _ _ (by kernel_rfl) (by kernel_rfl)
theorem cancEq_and (x y : Canc) : (x.id == y.id && (x.author == y.author && (x.date == y.date && (x.target == y.target && true)))) = cancEq x y := by
  unfold cancEq; rw [Bool.and_true]
@[go_sem] theorem eqCanc (x y : Canc) (w : World) : Sem.run Tryz.prog (Op.equalIn 10000 27 (.agg (cancC x).toArray) (.agg (cancC y).toArray)) w = .ok (cancEq x y) w :=
  (eqS_canc x y w).trans ((eqF_canc x y w).trans (by rw [cancEq_and]))
@[go_sem] theorem guardCanc : Tryz.prog.eqGuardType Tryz.prog.depth 27 = false := by kernel_rfl
theorem eql_canc (x y : Canc) (w : World) : Sem.run Tryz.prog (binOp .eql 27 (.agg (cancC x).toArray) (.agg (cancC y).toArray)) w = .ok (.bool (cancEq x y)) w := by
  rw [run_eql_struct, eqCanc]; rfl
end
section
open Go.RowKit

set_option maxRecDepth 100000 in
set_option maxHeartbeats 1000000 in
theorem allCmp (a b : Canc) (w : World) : Calls Tryz.prog 76 #[.agg (cancC a).toArray, .agg (cancC b).toArray] w fun e w' => e = .returned (.int .i64 (cfI a b)) ∧ Lay w w' := by
  have hL : Lay w ((w.alloc (.cells (cancC a).toArray 27)).alloc (.cells (cancC b).toArray 27)) := ((Lay.refl w).alloc _).alloc _
  have b1 : ((w.alloc (.cells (cancC a).toArray 27)).alloc (.cells (cancC b).toArray 27)).heap[w.heap.size]? = some (.cells (cancC a).toArray 27 (0, 0)) := heap_alloc2_old w _ _
  have b2 : ((w.alloc (.cells (cancC a).toArray 27)).alloc (.cells (cancC b).toArray 27)).heap[w.heap.size + 1]? = some (.cells (cancC b).toArray 27 (0, 0)) := heap_alloc2_new w _ _
  have HL := Lib.hid hL; have B1 := Lib.hid b1; have B2 := Lib.hid b2
  have HC : Hid (cfI a b = cmpB a.id b.id) := rfl
  clear hL b1 b2
  have r1 := hasRow_block B1.out 0 32 (by rw [cancC_length]; decide)
  have r2 := (rowAt_block B1.out 0 32 (by rw [cancC_length]; decide)).trans (canc_id a)
  have r3 := hasRow_block B2.out 0 32 (by rw [cancC_length]; decide)
  have r4 := (rowAt_block B2.out 0 32 (by rw [cancC_length]; decide)).trans (canc_id b)
  go_enter Tryz.func76, Tryz.ntmps76
  go_wp2_with fail
  refine (compareIds a.id b.id _).mono ?_
  rintro e w1 ⟨rfl, hl⟩
  go_wp2_with fail
  go_ret
  exact ⟨by rw [HC.out]; rfl, HL.out.trans hl⟩
set_option maxRecDepth 100000 in
set_option maxHeartbeats 1000000 in
theorem valuesC (bm : Nat) (w : World) : Calls Tryz.prog 75 #[.map (some bm)] w fun e w' => e = .returned (.func (.func 126) #[] #[.pointer (some ⟨w.heap.size, 0, none⟩)]) ∧ w' = w.alloc (.cells #[.map (some bm)] 103) := by
  go_enter Tryz.func75, Tryz.ntmps75
  go_wp2_with fail
  go_ret
  exact ⟨rfl, rfl⟩
end
section
open Go.RowKit Go.Shelf
attribute [local go_sem] Oper.semAt_some

theorem st_new {P : Program} (w : World) (t : TypeId) (z cs : List Value) (hz : cs.length = z.length) (h1 : oneB cs = true) : Sem.run P (storeCells ⟨w.heap.size, 0, none⟩ cs) (w.alloc (.cells z.toArray t)) = .ok () (w.alloc (.cells cs.toArray t)) := by
  have hb := heap_alloc_new w (.cells z.toArray t)
  have hr := hasRow_block hb 0 cs.length (by omega)
  have hf := freeRow_block hb 0 cs.length
  have hs := run_storeCells_cells (P := P) w.heap.size 0 cs 0 (w.alloc (.cells z.toArray t)) (fun c hc => by have := hasRow_iff.1 hr c hc; rw [Addr.add_lit] at this; simpa using this) (fun c hc => by have := freeRow_iff.1 hf c hc; rw [Addr.add_lit, Nat.zero_add] at this; rw [Nat.zero_add]; exact this) (fun v hv => List.all_eq_true.1 h1 v hv)
  rw [Nat.add_zero, setCells_whole w t _ z cs rfl hz] at hs
  exact hs
/-- A load and a store of an aggregate inside a fence. -/
theorem in_load {F : Fence} {n : Nat} {P : Program} {t : TypeId} (h : aggB P t = true) {d : Option Tmp} {x : Operand} {ty : TypeId} {p : String} {af : Array Edge} {a : Act} {w : World} {next : Act → World → Prop} {Q : Exit → Act → World → Prop} {ad : Addr} {k : Nat} {cs : List Value} (hc : P.cellsOf t = k) (hx : a.eval x = .pointer (some ad)) (hr : hasRow w ad k = true) (hv : rowAt w ad k = cs)
    (hk : next (a.put d (.agg cs.toArray)) w) : Oper.wpIn F n P ⟨d, .load t x, ty, p, af, none⟩ a w next Q := by
  subst hc; subst hv
  refine ⟨fun f hf => by simp [Oper.about] at hf, ?_⟩
  have e : ((⟨d, .load t x, ty, p, af, none⟩ : Oper).semAt F.round a.eval).run P w = .ok (.value (.agg (rowAt w ad (P.cellsOf t)).toArray)) w := by
    rw [Oper.semAt_eq _ _ _ (fun c h => by cases h)]
    rw [exec_load h, hx]; exact ldR_ptr h hr
  rw [e]; exact hk
theorem in_store {F : Fence} {n : Nat} {P : Program} {t : TypeId} (h : aggB P t = true) {d : Option Tmp} {x y : Operand} {ty : TypeId} {p : String} {af : Array Edge} {a : Act} {w : World} {next : Act → World → Prop} {Q : Exit → Act → World → Prop} {b k : Nat} {cs : List Value} (hx : a.eval x = .pointer (some ⟨b, k, none⟩)) (hy : a.eval y = .agg cs.toArray) (hn : cs.length = P.cellsOf t) (hr : hasRow w ⟨b, k, none⟩ cs.length = true) (hf : freeRow w ⟨b, k, none⟩ cs.length = true) (h1 : oneB cs = true)
    (hk : next (a.put d undef) (w.setCells b k cs)) : Oper.wpIn F n P ⟨d, .store t x y, ty, p, af, none⟩ a w next Q := by
  refine ⟨fun f hf => by simp [Oper.about] at hf, ?_⟩
  have e : ((⟨d, .store t x y, ty, p, af, none⟩ : Oper).semAt F.round a.eval).run P w = .ok .skip (w.setCells b k cs) := by
    rw [Oper.semAt_eq _ _ _ (fun c h => by cases h)]
    rw [exec_store h, hx, hy]; exact stR_ptr h hn hr hf h1
  rw [e]; exact hk
set_option maxRecDepth 100000 in
set_option maxHeartbeats 2000000 in
/-- The iterator of maps.Values, for every loop body. -/
theorem values1_in (n : Nat) (hn : 1 ≤ n) (l Bm b nn : Nat) (D0 : DataW Value) (cs : List Canc) (J Jx : List Canc → World → Prop)
    (hY : ∀ pre x W, J pre W → pre.length < cs.length → YieldAt Fence.wide (n - 1) Tryz.prog l #[.agg (cancC x).toArray] W fun e W' =>
      (e = .returned (.bool true) ∧ J (pre ++ [x]) W' ∧ KeepsWalks W W') ∨ (e = .returned (.bool false) ∧ Jx (pre ++ [x]) W'))
    (W : World) (hJ : AbidesFrom W.heap.size J) (hm : W.cell? ⟨Bm, 0, none⟩ = some (.map (some b))) (hD : Tmb W b nn D0 cs) (h0 : J [] W) :
    CallsIn Fence.wide n Tryz.prog 126 #[.func (.yield l) #[] #[], .pointer (some ⟨Bm, 0, none⟩)] W fun e W' => (∃ v, e = .returned v) ∧
      ((∃ xs : List Canc, xs.Perm cs ∧ J xs W') ∨ (∃ pre, True ∧ Jx pre W')) := by
  refine callsIn_of_wp Tryz.func126 rfl trivial ?_ rfl
  simp only [Tryz.ntmps126, List.size_toArray, List.length_cons, List.length_nil, Nat.reduceAdd, Nat.reduceSub, Array.replicate_succ, Array.replicate_zero, List.push_toArray, List.append_toArray, List.nil_append, List.cons_append]
  have HY := Lib.hid hY
  have HJ := Lib.hid hJ
  have HD := Lib.hid hD
  clear hY hJ hD
  gi_wp2_with (first
    | (gi_at_range; refine wpListIn_range_own _ rfl _ 103 rfl 23 27 kId Tryz.underlying103 cR b nn _ rfl HD.out.own ?_; intro w0 hrg0 hg0 hs0)
    | gi_in)
  go_frame
  gi_loopw [4] (fun _ wr => ∃ (left : Lit → Bool) (cnt : Nat) (ps : List Canc), Hid (wr.ranges Tryz.prog 23 cR b W.heap.size nn D0 left cnt) ∧ ps.length + cnt ≤ cs.length ∧ Hid (OutRel cs left ps) ∧ Hid (J ps wr))
    (fun _ wr => wr.rangeLeft b W.heap.size)
  case atStart =>
    exact ⟨_, _, [], hrg0, by rw [HD.out.size]; simp, out_start HD.out, HJ.out [] W w0 none h0 hg0 (fun r e => by cases e)⟩
  case round =>
    obtain ⟨left, cnt, ps, hrg, hcs, hC, hJs⟩ := hrel
    clear hrg0 hg0 hs0
    gi_wp2_with (first
      | (gi_at_next; refine wpListIn_next_ranges _ rfl _ rfl 23 kId cR (fun v : Value => v) (fun d : Canc => .agg (cancC d).toArray) (fun key _ _ => ⟨key, rfl⟩) (fun _ _ h => cR_inv h) b W.heap.size nn D0 left cnt rfl hrg.out ?_ ?_)
      | gi_in)
    · intro hc0 hl0
      gi_wp2
      go_end0
      exact ⟨⟨_, rfl⟩, .inl ⟨ps, out_end HD.out.apart hC.out hl0, hJs.out⟩⟩
    · intro key c k0 yd yp w2 cnt2 hkey hlx hv hat hrg2 hlt hg2 hs2 hen
      obtain ⟨en, hmem, rfl⟩ := hC.out.1 k0 hlx
      obtain rfl : c = en := by
        have h1 := hat (.held undef)
        have h2 : yd = .held (.agg (cancC c).toArray) := cR_eq hv
        rw [HD.out.elem en hmem, h2] at h1
        injection h1 with h1
        exact cancC_inj (List.toArray_inj (Value.agg.inj h1)).symm
      have hJ2 : J ps (w2.alloc (.cells (cancC c).toArray 27)) := HJ.out _ w2 _ none (HJ.out _ wr w2 (some W.heap.size) hJs.out hg2 (fun r e => by cases e; exact ⟨Nat.le_refl _, hrg.out.iter_walk⟩)) (World.grownBy_alloc _ _ _) (fun r e => by cases e)
      obtain ⟨fn, tmps, assign, body, hy, hR⟩ := HY.out ps c _ hJ2 (by omega)
      have hC2 := Lib.hid (out_step HD.out.apart hC.out hmem hlx)
      have R2 := Lib.hid (hrg2.alloc (.cells (cancC c).toArray 27))
      have HLT := Lib.hid hlt
      have HML := Lib.hid hrg.out.left_eq
      have hst := st_new (P := Tryz.prog) w2 27 zCanc (cancC c) (by rw [cancC_length]; rfl) (canc_one c)
      have f5 := hasRow_block (heap_alloc_new w2 (.cells (cancC c).toArray 27)) 0 81 (by rw [cancC_length]; decide)
      have f6 := (rowAt_block (heap_alloc_new w2 (.cells (cancC c).toArray 27)) 0 81 (by rw [cancC_length]; decide)).trans (canc_whole c)
      clear hs2 hkey hlx hv hat hrg2 hg2 hmem hrg
      gi_wp2
      refine in_load aggCanc cellsCanc rfl f5 f6 ?_
      gi_wp2
      refine hR.mono ?_
      rintro e W3 (⟨rfl, hJ3, hk3⟩ | ⟨rfl, hJx3⟩)
      · gi_wp2
        have hrg3 := R2.out.of_walks hk3
        go_roundw
        case rel => exact ⟨_, cnt2, ps ++ [c], hrg3, by simp; omega, hC2.out, hJ3⟩
        case measure => rw [hrg3.left_eq, HML.out]; exact hlt
      · gi_wp2
        refine bodyPost_ret (results_none rfl _ _ _) rfl ?_
        exact ⟨⟨_, rfl⟩, .inr ⟨ps ++ [c], trivial, hJx3⟩⟩
theorem values_stops (n : Nat) (hn : 1 ≤ n) (Bm b nn : Nat) (D0 : DataW Value) (cs : List Canc) (w : World) (hBm : Bm < w.heap.size)
    (hm : w.cell? ⟨Bm, 0, none⟩ = some (.map (some b))) (hD : Tmb w b nn D0 cs) :
    SeqStops Fence.wide n Tryz.prog 126 #[.pointer (some ⟨Bm, 0, none⟩)] (fun c : Canc => Value.agg (cancC c).toArray) (fun xs => xs.Perm cs) (fun _ => True) cs.length w := fun l J Jx W hW hJ _ hY h0 =>
  values1_in n hn l Bm b nn D0 cs J Jx hY W hJ ((Below.cell hW (p := ⟨Bm, 0, none⟩) hBm).trans hm) (hD.gr hW) h0

set_option maxRecDepth 100000 in
set_option maxHeartbeats 2000000 in
/-- slices.AppendSeq(nil, maps.Values(m)). -/
theorem appendSeq_in (n : Nat) (hn : 3 ≤ n) (Bm b nn : Nat) (D0 : DataW Value) (cs : List Canc) (w : World) (hBm : Bm < w.heap.size) (hm : w.cell? ⟨Bm, 0, none⟩ = some (.map (some b))) (hD : Tmb w b nn D0 cs) (hl : cs.length ≤ 1000) :
    CallsIn Fence.wide n Tryz.prog 160 #[.slice none 0 0, .func (.func 126) #[] #[.pointer (some ⟨Bm, 0, none⟩)]] w fun e w' =>
      ∃ (xs : List Canc) (v : Value), xs.Perm cs ∧ e = .returned v ∧ w'.ownsRow w.heap.size 27 81 v xs.length (xs.map cancC).flatten ∧ Gr w w' := by
  have h1 : 1 ≤ n := by omega
  obtain ⟨z0, hinfo, hzs⟩ := infoCanc
  obtain ⟨i0, hi, hz0, hz1, hz2⟩ := info_parts hinfo
  have HZ := Lib.hid hzs; have HI := Lib.hid hi
  clear hzs hi hinfo
  refine callsIn_of_wp_marks Tryz.func160 rfl trivial ?_ rfl
  simp only [Tryz.ntmps160, List.size_toArray, List.length_cons, List.length_nil, Nat.reduceAdd, Nat.reduceSub, Array.replicate_succ, Array.replicate_zero, List.push_toArray, List.append_toArray, List.nil_append, List.cons_append]
  gi_wp2_with fail
  have bN := Boxed.new w 40 (.slice none 0 0)
  have g0 : Below w.heap.size w (w.alloc (.cells #[.slice none 0 0] 40)) := (Gr.refl w).alloc _
  have hseq := values_stops (n - 1) (by omega) Bm b nn D0 cs (w.alloc (.cells #[.slice none 0 0] 40)) (by simp; omega) ((Gr.cell g0 (p := ⟨Bm, 0, none⟩) hBm).trans hm) (hD.gr g0)
  refine wpIn_rangeFunc_ownH rfl h1 (gf := 126) (lb := #[.pointer (some ⟨Bm, 0, none⟩)]) rfl trivial (enters_of Tryz.func126 (by kernel_rfl) rfl)
    hseq walksK_t walksK_b (Below.refl _ _) (fun _ => rfl)
    (fun pre W => (∃ v, Boxed W w.heap.size 40 v ∧ W.ownsRow w.heap.size 27 81 v pre.length (pre.map cancC).flatten ∧ True) ∧ Below w.heap.size w W)
    (fun _ _ _ => False)
    (OwnFrom.and (Own.from (holdsRow_own w.heap.size w.heap.size 40 27 81 (fun pre : List Canc => pre.length) (fun pre => (pre.map cancC).flatten) (fun _ _ => True)) _) (ownFrom_below (Nat.le_refl _) (by simp)))
    (fun _ _ _ _ _ hs _ _ => hs)
    ⟨⟨_, bN, ⟨rfl, .inl ⟨rfl, rfl⟩⟩, trivial⟩, g0⟩
    (fun x a' W => ∃ Bx, w.heap.size < Bx ∧ W.heap[Bx]? = some (.cells (cancC x).toArray 27 (0, 0)) ∧ a' = { tmps := #[.slice none 0 0, .func (.func 126) #[] #[.pointer (some ⟨Bm, 0, none⟩)], .pointer (some ⟨w.heap.size, 0, none⟩), undef, .slice none 0 0, .pointer (some ⟨Bx, 0, none⟩), .func (.func 126) #[] #[.pointer (some ⟨Bm, 0, none⟩)], .agg (cancC x).toArray, undef, undef, undef, undef, undef], defers := [] })
    (fun x a' _ X Y row hs hg hr => by
      obtain ⟨Bx, q1, q2, q3⟩ := hs
      refine ⟨Bx, q1, (hg.block Bx (Array.getElem?_eq_some_iff.1 q2).1 fun e => ?_).trans q2, q3⟩
      obtain ⟨o, ho, hc⟩ := (hr Bx e.symm).2
      rw [q2] at ho; cases ho; cases hc)
    ?assign ?body ?done ?stop
  case assign =>
    rintro l pre x W K ⟨⟨v, hbx, hrow, _⟩, hB⟩ hK
    have hst := st_new (P := Tryz.prog) W 27 zCanc (cancC x) (by rw [cancC_length]; rfl) (canc_one x)
    have HK := Lib.hid (hK _ _ ((KeepsOthers.alloc _ (.cells (cancC x).toArray 27)).from _) (KeepsWalks.alloc _ _) ⟨⟨v, hbx.alloc _, hrow.alloc _, trivial⟩, hB.alloc hB.size _⟩ ⟨W.heap.size, hbx.lt, heap_alloc_new W _, rfl⟩)
    clear hK hbx hrow hB
    gi_wp2
    exact HK.out
  case body =>
    rintro l pre x a' W hl' ⟨r, hr⟩ ⟨⟨v, hbx, hrow, _⟩, hB⟩ ⟨Bx, hBx, bX, rfl⟩ hlt
    have f5 := hasRow_block bX 0 81 (by rw [cancC_length]; decide)
    have f6 := (rowAt_block bX 0 81 (by rw [cancC_length]; decide)).trans (canc_whole x)
    have hc := hbx.cell
    have HBX := Lib.hid hbx; have HROW := Lib.hid hrow; have HB := Lib.hid hB
    have HNEW : Hid (∀ j u, (cancC x)[j]? = some u → (W.alloc (.cells (cancC x).toArray 27)).cell? ((⟨W.heap.size, 0, none⟩ : Addr).add j) = some u) := by
      intro j u hu
      rw [Addr.add_lit, Nat.zero_add, World.cell?_alloc_at _ _ _ _ rfl]; simpa using hu
    have hnl : Hid ((cancC x).length = 1 * 81) := by show _ = _; rw [cancC_length]
    have h1c : Hid (∀ u ∈ cancC x, u.oneCell' = true) := fun u hu => List.all_eq_true.1 (canc_one x) u hu
    have hsz : Hid (w.heap.size ≤ (W.alloc (.cells (cancC x).toArray 27)).heap.size) := by show _ ≤ _; have := hB.size; simp; omega
    have hlen : pre.length + 1 ≤ 1000 := by omega
    clear hbx hrow hB bX hr hl'
    gi_wp2
    refine in_load aggCanc cellsCanc rfl f5 f6 ?_
    gi_wp2_with (gi_at_builtin; refine wpListIn_append_own _ rfl _ _ 40 rfl w.heap.size 27 i0 z0 81 88 Tryz.underlying40 HI.out hz0 hz1 hz2 HZ.out (by decide) v pre.length (pre.map cancC).flatten rfl (HROW.out.alloc _) ⟨W.heap.size, 0, none⟩ 1 1 (cancC x) rfl hnl.out HNEW.out h1c.out (by unfold maxLen; omega) (by omega) hsz.out ?_; intro v' w1 hown' hgrow _; obtain ⟨g', cap', rfl⟩ := ownsRow_succ hown'; obtain ⟨hv1, hv2, hr2, hk2, hb2⟩ := HBX.out.appended (by decide) HROW.out HB.out.size (Nat.le_refl _) hown' hgrow; have hc1 := hv1.cell; have hf1 := hv1.frozen)
    exact ⟨hk2.from _, hk2.walks, ⟨_, hv2, by simpa using hr2, trivial⟩, Below.trans HB.out hb2⟩
  case done =>
    rintro D ys W hDD hS ⟨⟨v, hbx, hrow, _⟩, hB⟩ hK
    have hc := hbx.cell
    obtain ⟨oa, oc, hov, _⟩ := owns_slice hrow
    subst hov
    gi_wp2
    refine ⟨by simp, .inl ⟨_, _, rfl, run_takeDeferred hK, ?_⟩⟩
    exact ⟨_, results_tmp rfl _ _ _, ys, _, hS, rfl, ownsRow_putObj hrow _ hK rfl, Below.trans hB (belowK_b (w := w) (Nat.le_refl _) W D _ _ (by simp at hDD; omega) hK rfl rfl)⟩
  case stop =>
    rintro D c pre W _ _ h _
    exact h.elim
end
section
open Go.RowKit Go.Shelf

def CollPost (cs : List Canc) (w : World) (e : Ending) (w' : World) : Prop := ∃ (xs : List Canc) (v : Value), xs.Perm cs ∧ e = .returned v ∧ w'.ownsRow w.heap.size 27 81 v xs.length (xs.map cancC).flatten ∧ Gr w w'
theorem appendSeqC (Bm b nn : Nat) (D0 : DataW Value) (cs : List Canc) (w : World) (hBm : Bm < w.heap.size) (hm : w.cell? ⟨Bm, 0, none⟩ = some (.map (some b))) (hD : Tmb w b nn D0 cs) (hl : cs.length ≤ 1000) :
    Calls Tryz.prog 160 #[.slice none 0 0, .func (.func 126) #[] #[.pointer (some ⟨Bm, 0, none⟩)]] w (CollPost cs w) :=
  callsIn_wide.1 (appendSeq_in 3 (by omega) Bm b nn D0 cs w hBm hm hD hl)
set_option maxRecDepth 100000 in
set_option maxHeartbeats 1000000 in
theorem collectC (Bm b nn : Nat) (D0 : DataW Value) (cs : List Canc) (w : World) (hBm : Bm < w.heap.size) (hm : w.cell? ⟨Bm, 0, none⟩ = some (.map (some b))) (hD : Tmb w b nn D0 cs) (hl : cs.length ≤ 1000) :
    Calls Tryz.prog 124 #[.func (.func 126) #[] #[.pointer (some ⟨Bm, 0, none⟩)]] w (CollPost cs w) := by
  have HA := Lib.hid (appendSeqC Bm b nn D0 cs w hBm hm hD hl)
  clear hm hD
  go_enter Tryz.func124, Tryz.ntmps124
  go_wp2_with fail
  refine HA.out.mono ?_
  rintro e w1 ⟨xs, v, hp, rfl, ho, hg⟩
  obtain ⟨oa, oc, rfl, _⟩ := owns_slice ho
  go_wp2_with fail
  go_ret
  exact ⟨xs, _, hp, rfl, ho, hg⟩
def AllPost (cs : List Canc) (w : World) (e : Ending) (w' : World) : Prop := ∃ (s : List Canc) (a : Option Addr) (c : Nat), s.Perm cs ∧ (s.Pairwise fun a b => nm a.id ≤ nm b.id) ∧ e = .returned (.slice a s.length c) ∧ CancsAt w' (.slice a s.length c) s ∧ Gr w w'
theorem eg_allCmp : ∀ args w, (callFunc 76 args).run Tryz.prog w = .ok (.enter 76 args) w := enters_of Tryz.func76 (by kernel_rfl) rfl
theorem sortCNil (v : Value) (w : World) : Calls Tryz.prog 125 #[.slice none 0 0, v] w fun e w' => e = .returned (.tuple #[]) ∧ w = w' :=
  (AnyF.slices_SortFunc_none Tryz.sortCanc none 0 v w).mono fun _ _ ⟨h1, h2⟩ => ⟨h1, h2.symm⟩
set_option maxRecDepth 100000 in
set_option maxHeartbeats 1000000 in
theorem sortedC (Bm b nn : Nat) (D0 : DataW Value) (cs : List Canc) (w : World) (hBm : Bm < w.heap.size) (hm : w.cell? ⟨Bm, 0, none⟩ = some (.map (some b))) (hD : Tmb w b nn D0 cs) (hl : cs.length ≤ 1000) :
    Calls Tryz.prog 74 #[.func (.func 126) #[] #[.pointer (some ⟨Bm, 0, none⟩)], .func (.func 76) #[] #[]] w (AllPost cs w) := by
  have HA := Lib.hid (collectC Bm b nn D0 cs w hBm hm hD hl)
  clear hm hD
  go_enter Tryz.func74, Tryz.ntmps74
  go_wp2_with fail
  refine HA.out.mono ?_
  rintro e w1 ⟨xs, v, hp, rfl, ho, hg⟩
  have HP := Lib.hid hp; have HO := Lib.hid ho; have HG := Lib.hid hg
  have hlen : xs.length ≤ 1000 := by rw [hp.length_eq]; exact hl
  clear hp ho hg HA
  obtain ⟨oa, oc, rfl, hnil⟩ := owns_slice HO.out
  rcases oa with _ | ad
  · obtain ⟨h0, rfl⟩ := hnil rfl
    have hx0 : xs = [] := List.length_eq_zero_iff.1 h0
    subst hx0
    go_wp2_with fail
    refine (sortCNil _ w1).mono ?_
    rintro e w2 ⟨rfl, rfl⟩
    go_wp2_with fail
    go_ret
    exact ⟨[], none, 0, HP.out, List.Pairwise.nil, rfl, slAt_none _ _ _ _, HG.out⟩
  · obtain ⟨g, hg⟩ : ∃ g, ad = ⟨g, 0, none⟩ := by
      rcases HO.out.2 with ⟨h0, _⟩ | ⟨g, cap, _, h0, _⟩
      · cases h0
      · injection h0 with h0; injection h0 with h0; exact ⟨g, h0⟩
    subst hg
    have HS := Lib.hid (sortCancs 76 eg_allCmp allCmp xs w w1 w.heap.size g oc (Nat.le_refl _) HG.out (by omega) HO.out)
    go_wp2_with fail
    refine HS.out.mono ?_
    rintro e w2 ⟨rfl, hg2, s, hs1, hs2, hs3⟩
    have HS3 := Lib.hid hs3
    have hsl : s.length = xs.length := hs1.length_eq
    rw [← hsl] at HS3
    go_wp2_with fail
    go_ret
    exact ⟨s, _, _, hs1.trans HP.out, hs2, by rw [hsl]; rfl, slAt_of_owns (map_cancC_len s) (by rw [List.length_map]; exact HS3.out), hg2⟩
set_option maxRecDepth 100000 in
set_option maxHeartbeats 1000000 in
theorem allT (n bt bm : Nat) (cs : List Canc) (w : World) (h : TmAt w n bt bm cs) (hl : cs.length ≤ 1000) :
    Calls Tryz.prog 48 #[.pointer (some ⟨bt, 0, none⟩)] w (AllPost cs w) := by
  have hc := h.cell
  have g1 := (Gr.refl w).alloc (.cells #[.map (some bm)] 103)
  obtain ⟨_, _, _, D, hD⟩ := id h
  have HS := Lib.hid (sortedC w.heap.size bm cs.length D cs _ (by simp) (Boxed.new w 103 (.map (some bm))).cell (hD.gr g1) hl)
  have G1 := Lib.hid g1
  clear h g1 hD
  go_enter Tryz.func48, Tryz.ntmps48
  go_wp2_with fail
  refine (valuesC bm w).mono ?_
  rintro e w1 ⟨rfl, rfl⟩
  go_wp2_with fail
  refine HS.out.mono ?_
  rintro e w2 ⟨s, a, c, hp, hs, rfl, hca, hg⟩
  go_wp2_with fail
  go_ret
  exact ⟨s, a, c, hp, hs, rfl, hca, G1.out.trans hg⟩
end
end Go.Proofs.YtemhfcfebkjioaaGreatDoor

/- The statement's by: what it returns. -/
import Derived.Test.YtemhfcfebkjioaaGreatDoorLess
namespace Go.Proofs.YtemhfcfebkjioaaGreatDoor
open Go.RowKit

attribute [local go_sem] oneB_cons oneB_nil one_int
/-- best is the index of the best of the first k. -/
def BestAt (l : List Canc) (o : Option Canc) (k : Nat) (v : Value) : Prop :=
  match o with
  | none => v = .int .i64 (-1)
  | some m => ∃ j : Nat, j < k ∧ l[j]? = some m ∧ v = .int .i64 (j : Int)
theorem BestAt.none' {l : List Canc} {k : Nat} {v : Value} (h : BestAt l none k v) : v = .int .i64 (-1) := h
theorem BestAt.step {l : List Canc} {o : Option Canc} {k : Nat} {v : Value} (h : BestAt l o k v) : BestAt l o (k + 1) v := by
  cases o with
  | none => exact h
  | some m => obtain ⟨j, h1, h2, h3⟩ := h; exact ⟨j, by omega, h2, h3⟩
theorem cell_of_rowK {w : World} {b k n : Nat} {cs : List Value} (h1 : hasRow w ⟨b, k, none⟩ n = true) (h2 : rowAt w ⟨b, k, none⟩ n = cs) (i : Nat) (hi : i < n) {v : Value} (hv : cs[i]? = some v) : w.cell? ⟨b, k + i, none⟩ = some v := by
  obtain ⟨y, hy⟩ := Option.isSome_iff_exists.1 (hasRow_iff.1 h1 i hi)
  have h3 : (rowAt w ⟨b, k, none⟩ n)[i]? = some y := by rw [rowAt, List.getElem?_map, List.getElem?_range hi, Option.map_some, hy]; rfl
  rw [h2, hv] at h3
  rw [Addr.add_lit] at hy
  rw [hy, ← h3]
theorem sub_rowH {w : World} {b k n : Nat} (h1 : hasRow w ⟨b, k, none⟩ n = true) (i m : Nat) (hi : i + m ≤ n) : hasRow w ⟨b, k + i, none⟩ m = true := by
  rw [hasRow_iff] at h1 ⊢
  intro j hj
  have := h1 (i + j) (by omega)
  rw [Addr.add_lit] at this ⊢
  rwa [Nat.add_assoc]
theorem sub_row {w : World} {b k n : Nat} {cs : List Value} (_h1 : hasRow w ⟨b, k, none⟩ n = true) (h2 : rowAt w ⟨b, k, none⟩ n = cs) (i m : Nat) (hi : i + m ≤ n) : rowAt w ⟨b, k + i, none⟩ m = rowOf cs i m := by
  rw [← h2]
  apply List.ext_getElem?
  intro j
  unfold rowOf
  rw [rowAt, List.getElem?_map, List.getElem?_take, List.getElem?_drop]
  by_cases hj : j < m
  · rw [if_pos hj, List.getElem?_range hj, rowAt, List.getElem?_map, List.getElem?_range (by omega), Option.map_some, Option.map_some, Addr.add_lit, Addr.add_lit, Nat.add_assoc]
  · rw [if_neg hj, List.getElem?_eq_none (by simp; omega)]; rfl
set_option maxRecDepth 100000 in
set_option maxHeartbeats 4000000 in
theorem byL (x : Rw) (gs : List ByteArray) (l : List Canc) (v : Value) (r : Option Nat) (ents : List (Dfn × List Aut)) (w : World) (hr : RegAt w r ents) (hgs : StrsAt w x.groups gs) (hl : gs.length ≤ 1000000) (hv : CancsAt w v l) (hll : l.length ≤ 1000000) (_hx1 : oneB (rwC x) = true) :
    Calls Tryz.prog 18 #[.agg (rwC x).toArray, v, ptrV r] w (ByPost (byR x gs ents l) w) := by
  obtain ⟨a, cap, rfl, hc, hj⟩ := hv
  have e1 : (l.map cancC).length = l.length := by simp
  rw [e1] at hc ⊢
  have HJ := Lib.hid hj
  have HR := Lib.hid hr
  have HGS := Lib.hid hgs
  obtain ⟨pr, hpr⟩ : ∃ pr, ptrV r = .pointer pr := ⟨_, rfl⟩
  have HPR := Lib.hid hpr
  rw [hpr]
  clear hj hr hgs e1 hpr
  go_enter Tryz.func18, Tryz.ntmps18
  go_wp2_with fail
  go_loopw [8, 9, 10, 11, 12, 13, 14, 15, 16, 17, 18, 19, 20, 21, 22, 23, 24, 25, 26, 27, 28, 29, 30, 31, 32, 33, 34, 35, 36, 37, 38, 39, 40, 41, 42, 43, 44, 45, 46, 47, 48, 49, 50, 51, 52, 53, 54, 55, 56, 57, 58, 59, 60, 61, 62, 63, 64, 65, 66] (fun bv i _ _ _ _ _ _ _ _ _ _ _ _ _ _ _ _ _ _ _ _ _ _ _ _ _ _ _ _ _ _ _ _ _ _ _ _ _ _ _ _ _ _ _ _ _ _ _ _ _ _ _ _ _ _ _ _ _ wr => ∃ k : Nat, k ≤ l.length ∧ i = .int .i64 k ∧ Hid (BestAt l (byR x gs ents (l.take k)) k bv) ∧ Hid (Gr w wr) ∧ Hid (wr.heap[w.heap.size]? = some (.cells (rwC x).toArray 31 (0, 0))) ∧ Hid (wr.heap[w.heap.size + 1]? = some (.cells (bC zeroId).toArray 23 (0, 0)))) (fun _ i _ _ _ _ _ _ _ _ _ _ _ _ _ _ _ _ _ _ _ _ _ _ _ _ _ _ _ _ _ _ _ _ _ _ _ _ _ _ _ _ _ _ _ _ _ _ _ _ _ _ _ _ _ _ _ _ _ _ => l.length - (intOf i).toNat)
  case atStart => exact ⟨0, Nat.zero_le _, rfl, rfl, ((Gr.refl w).alloc _).alloc _, heap_alloc2_old w _ _, by show _ = _; rw [zId_eq]; exact heap_alloc2_new w _ _⟩
  case round =>
    obtain ⟨k, hk, rfl, hB, hG, h3, h6⟩ := hrel
    have s3 := (Array.getElem?_eq_some_iff.1 h3.out).1
    have s6 := (Array.getElem?_eq_some_iff.1 h6.out).1
    by_cases hlt : k < l.length
    · obtain ⟨b, o, rfl, hb, q1, q2⟩ := HJ.out k (by simpa using hlt)
      have u1 := (hG.out.hasRow hb).trans q1
      have u2 := (hG.out.rowAt hb).trans q2
      rw [List.getElem_map] at u2
      have HFS := Lib.hid (byR_succ x gs ents l k hlt)
      have hbw : b < wr.heap.size := Nat.lt_of_lt_of_le hb hG.out.size
      have hk1 : (k : Int) < (l.length : Int) := by omega
      have hk2 : (0 : Int) ≤ (k : Int) := by omega
      have hget : Hid (l[k]? = some l[k]) := List.getElem?_eq_getElem hlt
      clear q1 q2
      generalize l[k] = y at *
      generalize byR x gs ents (l.take k) = bo at *
      have t3 := hasRow_block h3.out 0 83 (by rw [rwC_length]; decide)
      have t4 := (rowAt_block h3.out 0 83 (by rw [rwC_length]; decide)).trans (rw_whole _)
      have HC : Hid (∀ p : GD, Calls Tryz.prog 16 #[.agg (cancC y).toArray, .agg (rwC x).toArray, .pointer pr] (gw wr p) fun e w'' => e = .returned (.bool (countsB y x gs ents)) ∧ ∃ q : GD, w'' = gw wr q) := fun p => by
        have h := countsL y x gs r ents _ (HR.out.gr (hG.out.trans (gr_gw wr p))) (HGS.out.gr (hG.out.trans (gr_gw wr p))) hl
        rw [HPR.out] at h
        exact gr_call h
      cases hcb : countsB y x gs ents with
      | false =>
        have HB : Hid (byR x gs ents (l.take (k + 1)) = bo) := by show _ = _; rw [HFS.out, hcb]; rfl
        rw [hcb] at HC
        clear hcb
        have hbv : ∃ z, u8 = .int .i64 z := by
          cases bo with
          | none => exact ⟨_, hB.out⟩
          | some m => obtain ⟨j, _, _, h⟩ := hB.out; exact ⟨_, h⟩
        obtain ⟨z, rfl⟩ := hbv
        go_wp2_with fail
        refine wp_region_gr (by kernel_rfl) (by kernel_rfl) ?_
        repeat (go_big_quiet_step ((go_at_call 16; with_reducible exact HC.out _)))
        refine wpQuiet_nil ?_
        rintro _ ⟨p, rfl⟩
        have HU := Lib.hid (gr_gw wr p)
        have hp := Lib.hid (hG.out.trans (gr_gw wr p))
        generalize gw wr p = U at *
        go_wp2_with fail
        go_roundw
        case rel => exact ⟨k + 1, by omega, by go_num, by show BestAt _ _ _ _; rw [HB.out]; exact BestAt.step hB.out, hp.out, (HU.out.block s3).trans h3.out, (HU.out.block s6).trans h6.out⟩
        case measure => simp [intOf]; omega
      | true =>
        rw [hcb] at HC
        have HFS2 : Hid (byR x gs ents (l.take (k + 1)) = if bestB bo y = true then some y else bo) := by show _ = _; rw [HFS.out, hcb]; rfl
        clear hcb HFS
        cases bo with
        | none =>
          obtain rfl := hB.out.none'
          have HB : Hid (byR x gs ents (l.take (k + 1)) = some y) := by show _ = _; rw [HFS2.out]; rfl
          go_wp2_with fail
          refine wp_region_gr (by kernel_rfl) (by kernel_rfl) ?_
          repeat (go_big_quiet_step ((go_at_call 16; with_reducible exact HC.out _)))
          refine wpQuiet_nil ?_
          rintro _ ⟨p, rfl⟩
          have HU := Lib.hid (gr_gw wr p)
          have hp := Lib.hid (hG.out.trans (gr_gw wr p))
          generalize gw wr p = U at *
          go_wp2_with fail
          go_roundw
          case rel => exact ⟨k + 1, by omega, by go_num, by show BestAt _ _ _ _; rw [HB.out]; exact ⟨k, by omega, hget.out, rfl⟩, hp.out, (HU.out.block s3).trans h3.out, (HU.out.block s6).trans h6.out⟩
          case measure => simp [intOf]; omega
        | some m =>
          obtain ⟨j, hjk, hjm, rfl⟩ := hB.out
          have hj0 : (0 : Int) ≤ (j : Int) := by omega
          have hj1 : (j : Int) < (l.length : Int) := by omega
          have hj2 : decide ((j : Int) < 0) = false := by simp
          have hjl : j < l.length := by omega
          obtain ⟨b', o', hbo, hb', q1, q2⟩ := HJ.out j (by simpa using hjl)
          have v1 := (hG.out.hasRow hb').trans q1
          have v2 := (hG.out.rowAt hb').trans q2
          rw [List.getElem_map] at v2
          have ejm : l[j] = m := by rw [List.getElem?_eq_getElem hjl] at hjm; exact Option.some.inj hjm
          rw [ejm] at v2
          injection hbo with hbo
          injection hbo with e1 e2
          subst e1; subst e2
          have HJM := Lib.hid hjm
          clear q1 q2 ejm hjm
          have c1 := cell_of_rowK u1 u2 48 (by decide) (canc_date y)
          have c2 := cell_of_rowK v1 v2 48 (by decide) (canc_date m)
          have d1 := sub_rowH u1 0 32 (by decide)
          have d2 := (sub_row u1 u2 0 32 (by decide)).trans (canc_id y)
          have d3 := sub_rowH v1 0 32 (by decide)
          have d4 := (sub_row v1 v2 0 32 (by decide)).trans (canc_id m)
          simp only [Nat.add_zero] at d1 d2 d3 d4
          by_cases hd : y.date < m.date
          · have hdd : decide (y.date < m.date) = true := by simpa using hd
            have HB : Hid (byR x gs ents (l.take (k + 1)) = some y) := by show _ = _; rw [HFS2.out]; unfold bestB; rw [if_pos]; simp; rw [cfC_neg]; exact .inl hd
            go_wp2_with fail
            refine wp_region_gr (by kernel_rfl) (by kernel_rfl) ?_
            repeat (go_big_quiet_step ((go_at_call 16; with_reducible exact HC.out _)))
            refine wpQuiet_nil ?_
            rintro _ ⟨p, rfl⟩
            have HU := Lib.hid (gr_gw wr p)
            have hp := Lib.hid (hG.out.trans (gr_gw wr p))
            generalize gw wr p = U at *
            go_wp2_with fail
            go_roundw
            case rel => exact ⟨k + 1, by omega, by go_num, by show BestAt _ _ _ _; rw [HB.out]; exact ⟨k, by omega, hget.out, rfl⟩, hp.out, (HU.out.block s3).trans h3.out, (HU.out.block s6).trans h6.out⟩
            case measure => simp [intOf]; omega
          · have hdd : decide (y.date < m.date) = false := by simpa using hd
            by_cases he : y.date = m.date
            · have hee : (y.date == m.date) = true := by simpa using he
              have HLS : Hid (∀ p : GD, Calls Tryz.prog 44 #[.agg (bC y.id).toArray, .agg (bC m.id).toArray] (gw wr p) fun e w'' => e = .returned (.bool (lessB y.id m.id)) ∧ ∃ q : GD, w'' = gw wr q) := fun p => gr_call ((lessC y.id m.id _).mono fun _ _ h => ⟨h.1, h.2.1⟩)
              have HE := Lib.hid he
              clear he
              cases hlb : lessB y.id m.id with
              | true =>
                have HB : Hid (byR x gs ents (l.take (k + 1)) = some y) := by
                  show _ = _; rw [HFS2.out]; unfold bestB; rw [if_pos]; simp; rw [cfC_neg]; right; refine ⟨HE.out, ?_⟩
                  rw [lessB_num] at hlb; simpa using hlb
                rw [hlb] at HLS
                clear hlb
                go_wp2_with fail
                refine wp_region_gr (by kernel_rfl) (by kernel_rfl) ?_
                repeat (go_big_quiet_step (first | (go_at_call 16; with_reducible exact HC.out _) | (go_at_call 44; with_reducible exact HLS.out _)))
                refine wpQuiet_nil ?_
                rintro _ ⟨p, rfl⟩
                have HU := Lib.hid (gr_gw wr p)
                have hp := Lib.hid (hG.out.trans (gr_gw wr p))
                generalize gw wr p = U at *
                go_wp2_with fail
                go_roundw
                case rel => exact ⟨k + 1, by omega, by go_num, by show BestAt _ _ _ _; rw [HB.out]; exact ⟨k, by omega, hget.out, rfl⟩, hp.out, (HU.out.block s3).trans h3.out, (HU.out.block s6).trans h6.out⟩
                case measure => simp [intOf]; omega
              | false =>
                have HB : Hid (byR x gs ents (l.take (k + 1)) = some m) := by
                  show _ = _; rw [HFS2.out]; unfold bestB; rw [if_neg]; simp; rw [← Int.not_lt, cfC_neg]
                  rw [lessB_num] at hlb; simp at hlb; omega
                rw [hlb] at HLS
                clear hlb
                go_wp2_with fail
                refine wp_region_gr (by kernel_rfl) (by kernel_rfl) ?_
                repeat (go_big_quiet_step (first | (go_at_call 16; with_reducible exact HC.out _) | (go_at_call 44; with_reducible exact HLS.out _)))
                refine wpQuiet_nil ?_
                rintro _ ⟨p, rfl⟩
                have HU := Lib.hid (gr_gw wr p)
                have hp := Lib.hid (hG.out.trans (gr_gw wr p))
                generalize gw wr p = U at *
                go_wp2_with fail
                go_roundw
                case rel => exact ⟨k + 1, by omega, by go_num, by show BestAt _ _ _ _; rw [HB.out]; exact ⟨j, by omega, HJM.out, rfl⟩, hp.out, (HU.out.block s3).trans h3.out, (HU.out.block s6).trans h6.out⟩
                case measure => simp [intOf]; omega
            · have hee : (y.date == m.date) = false := by simpa using he
              have HB : Hid (byR x gs ents (l.take (k + 1)) = some m) := by
                show _ = _; rw [HFS2.out]; unfold bestB; rw [if_neg]; simp; rw [← Int.not_lt, cfC_neg]; omega
              clear he
              go_wp2_with fail
              refine wp_region_gr (by kernel_rfl) (by kernel_rfl) ?_
              repeat (go_big_quiet_step ((go_at_call 16; with_reducible exact HC.out _)))
              refine wpQuiet_nil ?_
              rintro _ ⟨p, rfl⟩
              have HU := Lib.hid (gr_gw wr p)
              have hp := Lib.hid (hG.out.trans (gr_gw wr p))
              generalize gw wr p = U at *
              go_wp2_with fail
              go_roundw
              case rel => exact ⟨k + 1, by omega, by go_num, by show BestAt _ _ _ _; rw [HB.out]; exact ⟨j, by omega, HJM.out, rfl⟩, hp.out, (HU.out.block s3).trans h3.out, (HU.out.block s6).trans h6.out⟩
              case measure => simp [intOf]; omega
    · have hke : l.take k = l := List.take_of_length_le (by omega)
      have hk1 : ¬ (k : Int) < (l.length : Int) := by omega
      rw [hke] at hB
      generalize byR x gs ents l = bo at *
      have q1 := hasRow_block h6.out 0 32 (by rw [bC_length]; decide)
      have q2 := freeRow_block h6.out 0 32
      cases bo with
      | none =>
        obtain rfl := hB.out.none'
        go_wp2_with fail
        refine bodyPost_ret (results_row2 rfl _ _ (w.heap.size + 1) _ _ _ _ rfl (heap_setCells_at h6.out (by rw [bC_length]; rfl)) Tryz.underlying23 rfl (by kernel_rfl)) rfl ?_
        refine ⟨?_, Gr.setCells _ (by omega) _ _ _ hG.out⟩
        show _ = Ending.returned (.tuple #[.agg (bC zeroId).toArray, .bool false])
        rw [zId_eq]; rfl
      | some m =>
        obtain ⟨j, hjk, hjm, rfl⟩ := hB.out
        have hj0 : (0 : Int) ≤ (j : Int) := by omega
        have hj1 : (j : Int) < (l.length : Int) := by omega
        have hj2 : ¬ (j : Int) < 0 := by omega
        have hjl : j < l.length := by omega
        obtain ⟨b', o', rfl, hb', p1, p2⟩ := HJ.out j (by simpa using hjl)
        have v1 := (hG.out.hasRow hb').trans p1
        have v2 := (hG.out.rowAt hb').trans p2
        rw [List.getElem_map] at v2
        have ejm : l[j] = m := by rw [List.getElem?_eq_getElem hjl] at hjm; exact Option.some.inj hjm
        rw [ejm] at v2
        have d3 := sub_rowH v1 0 32 (by decide)
        have d4 := (sub_row v1 v2 0 32 (by decide)).trans (canc_id m)
        simp only [Nat.add_zero] at d3 d4
        clear p1 p2 ejm hjm v1 v2
        go_wp2_with fail
        have hw := heap_setCells_at (cs := bC m.id) h6.out (by rw [bC_length, bC_length])
        refine bodyPost_ret (results_row2 rfl _ _ (w.heap.size + 1) _ _ _ _ rfl hw Tryz.underlying23 rfl (by rw [List.size_toArray, bC_length]; kernel_rfl)) rfl ?_
        exact ⟨rfl, Gr.setCells _ (by omega) _ _ _ hG.out⟩
end Go.Proofs.YtemhfcfebkjioaaGreatDoor

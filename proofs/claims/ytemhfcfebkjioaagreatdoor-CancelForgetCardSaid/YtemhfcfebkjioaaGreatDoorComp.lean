/- slices.Compact at identities: what it returns. -/
import Derived.Test.YtemhfcfebkjioaaGreatDoorEq
import Derived.Test.YtemhfcfebkjioaaGreatDoorSortI
import Derived.Lib.SlicesCompact
namespace Go.Proofs.YtemhfcfebkjioaaGreatDoor
open Go.RowKit

theorem row_of_cells {w : World} {b k : Nat} {cs : List Value} (h : ∀ c (hc : c < cs.length), w.cell? ⟨b, k + c, none⟩ = some cs[c]) : hasRow w ⟨b, k, none⟩ cs.length = true ∧ rowAt w ⟨b, k, none⟩ cs.length = cs := by
  constructor
  · rw [hasRow_iff]; intro i hi; rw [Addr.add_lit, h i hi]; rfl
  · apply List.ext_getElem?
    intro i
    rw [rowAt, List.getElem?_map]
    by_cases hi : i < cs.length
    · rw [List.getElem?_range hi, Option.map_some, Addr.add_lit, h i hi, List.getElem?_eq_getElem hi]; rfl
    · rw [List.getElem?_eq_none (by simpa using hi), List.getElem?_eq_none (by simpa using hi)]; rfl
theorem cells_of_row {w : World} {b k n : Nat} {cs : List Value} (h1 : hasRow w ⟨b, k, none⟩ n = true) (h2 : rowAt w ⟨b, k, none⟩ n = cs) (c : Nat) (hc : c < n) : ∃ h : c < cs.length, w.cell? ⟨b, k + c, none⟩ = some cs[c] := by
  have hl : cs.length = n := by rw [← h2, rowAt, List.length_map, List.length_range]
  refine ⟨by omega, ?_⟩
  obtain ⟨y, hy⟩ := Option.isSome_iff_exists.1 (hasRow_iff.1 h1 c hc)
  have h3 : (rowAt w ⟨b, k, none⟩ n)[c]? = some y := by rw [rowAt, List.getElem?_map, List.getElem?_range hc, Option.map_some, hy]; rfl
  rw [h2, List.getElem?_eq_getElem (by omega)] at h3
  rw [Addr.add_lit] at hy
  rw [hy, ← h3]
theorem size_setC (b : Nat) : ∀ (vs : List Value) (o : Nat) (w : World), (w.setCells b o vs).heap.size = w.heap.size
  | [], _, _ => rfl
  | v :: r, o, w => by rw [World.setCells, size_setC b r (o + 1)]; simp
/-- The rows of an array of identities, which may be written. -/
def Rows32 (w : World) (g off : Nat) (d : Array Id) : Prop := ∀ j, j < d.size → hasRow w ⟨g, off + j * 32, none⟩ 32 = true ∧ freeRow w ⟨g, off + j * 32, none⟩ 32 = true ∧ rowAt w ⟨g, off + j * 32, none⟩ 32 = bC d[j]!
theorem Rows32.set {w : World} {g off : Nat} {d : Array Id} (h : Rows32 w g off d) (i : Nat) (hi : i < d.size) (x : Id) : Rows32 (w.setCells g (off + i * 32) (bC x)) g off (d.setIfInBounds i x) := by
  intro j hj
  rw [Array.size_setIfInBounds] at hj
  obtain ⟨h1, h2, h3⟩ := h j hj
  have hfree : freeRow (w.setCells g (off + i * 32) (bC x)) ⟨g, off + j * 32, none⟩ 32 = true := by
    rw [freeRow_iff] at h2 ⊢; intro c hc; rw [World.frozen?_setCells]; exact h2 c hc
  by_cases e : j = i
  · subst e
    have hin : ∀ c, c < (bC x).length → (w.cell? ⟨g, off + j * 32 + c, none⟩).isSome = true := fun c hc => by
      rw [bC_length] at hc
      have := hasRow_iff.1 h1 c hc
      rwa [Addr.add_lit] at this
    obtain ⟨p1, p2⟩ := row_of_cells (w := w.setCells g (off + j * 32) (bC x)) (cs := bC x) (fun c hc => World.cell?_setCells_in g (bC x) (off + j * 32) w hin c hc)
    rw [bC_length] at p1 p2
    rw [getElem!_pos _ j (by simpa using hj), Array.getElem_setIfInBounds_self]
    exact ⟨p1, hfree, p2⟩
  · have hout : ∀ c, c < 32 → (w.setCells g (off + i * 32) (bC x)).cell? ((⟨g, off + j * 32, none⟩ : Addr).add c) = w.cell? ((⟨g, off + j * 32, none⟩ : Addr).add c) := fun c hc => by
      rw [Addr.add_lit]
      refine World.cell?_setCells_out g (bC x) (off + i * 32) w _ (fun _ _ => ?_)
      rw [bC_length]
      show off + j * 32 + c < off + i * 32 ∨ off + i * 32 + 32 ≤ off + j * 32 + c
      omega
    refine ⟨(hasRow_congr hout).trans h1, hfree, ?_⟩
    rw [rowAt_congr hout, h3, getElem!_pos d j hj, getElem!_pos (d.setIfInBounds i x) j (by simpa using hj), Array.getElem_setIfInBounds_ne (by simpa using hj) (fun q => e q.symm)]
theorem Rows32.drewN {w : World} {g off : Nat} {d : Array Id} (h : Rows32 w g off d) (n : Nat) : Rows32 (w.drewN n) g off d := by
  intro j hj
  obtain ⟨h1, h2, h3⟩ := h j hj
  refine ⟨(hasRow_drewN ..).trans h1, ?_, (rowAt_drewN ..).trans h3⟩
  rw [freeRow_iff] at h2 ⊢
  intro c hc
  have := h2 c hc
  rwa [World.frozen?_drewN]
theorem rows32_of_owns {w : World} {base : Nat} {e : TypeId} {g c : Nat} {s : List Id} (h : w.ownsRow base e 32 (.slice (some ⟨g, 0, none⟩) s.length c) s.length (s.map idC).flatten) : Rows32 w g 0 s.toArray := by
  have hH := holdsK_of_owns idC 32 idC_len (by decide) s h
  intro j hj
  have hc := fun c hc => Sort.HoldsK.cell hH (i := j) (c := c) hj hc
  obtain ⟨p1, p2⟩ := row_of_cells (w := w) (b := g) (k := 0 + j * 32) (cs := bC s.toArray[j]!) (fun c hc' => by
    rw [bC_length] at hc'
    rw [(hc c hc').1]
    show some (bC s.toArray[j]!)[c]! = _
    rw [getElem!_pos (bC s.toArray[j]!) c (by rw [bC_length]; exact hc')])
  rw [bC_length] at p1 p2
  refine ⟨p1, ?_, p2⟩
  rw [freeRow_iff]; intro c hc'; rw [Addr.add_lit]; exact (hc c hc').2
theorem idsAt_rows {w : World} {g off n c : Nat} {l : List Id} (hn : l.length = n) (hc : n ≤ c) (hg : g < w.heap.size) (h : ∀ j (hj : j < l.length), hasRow w ⟨g, off + j * 32, none⟩ 32 = true ∧ rowAt w ⟨g, off + j * 32, none⟩ 32 = bC l[j]) : IdsAt w (.slice (some ⟨g, off, none⟩) n c) l := by
  refine ⟨_, c, by rw [List.length_map, hn], by rw [List.length_map, hn]; exact hc, fun j hj => ⟨g, off, rfl, hg, ?_⟩⟩
  rw [List.length_map] at hj
  rw [List.getElem_map]
  exact h j hj
def CompPost (d : Array Id) (g off cap : Nat) (w0 : World) (e : Ending) (w' : World) : Prop := ∃ n, e = .returned (.slice (some ⟨g, off, none⟩) n cap) ∧ IdsAt w' (.slice (some ⟨g, off, none⟩) n cap) (Lib.compactUpTo d d.size) ∧ Gr w0 w'
theorem comp_all {d : Array Id} {g off cap : Nat} {w w0 w' : World} (hR : Rows32 w g off d) (hc : d.size ≤ cap) (hg : g < w.heap.size) (h : ∀ j, j < d.size → Lib.keeps d j = true) (q : Nat) (hw : w' = w.drewN q) (hG : Gr w0 w') : CompPost d g off cap w0 (.returned (.slice (some ⟨g, off, none⟩) d.size cap)) w' := by
  subst hw
  have e : Lib.compactUpTo d d.size = d.toList := by rw [Lib.compactUpTo_all d _ h, Lib.range_map_get]
  refine ⟨d.size, rfl, ?_, hG⟩
  rw [e]
  refine idsAt_rows (by simp) hc (by simpa using hg) (fun j hj => ?_)
  have hj' : j < d.size := by simpa using hj
  obtain ⟨h1, _, h3⟩ := hR.drewN q j hj'
  refine ⟨h1, ?_⟩
  rw [h3, getElem!_pos d j hj', Array.getElem_toList]
theorem clear_run (w : World) (g k n c : Nat) (h : ∀ j, j < n * 32 → (w.cell? ⟨g, k + j, none⟩).isSome = true ∧ w.frozen? ⟨g, k + j, none⟩ = false) :
    ∃ cs : List Value, ∀ ty, (Builtin.clear_ #[29] ty #[.slice (some ⟨g, k, none⟩) n c]).run Tryz.prog w = .ok (.tuple #[]) (w.setCells g k cs) := by
  rcases Nat.eq_zero_or_pos n with rfl | hn
  · exact ⟨[], fun ty => by simp [Builtin.clear_, run_underlying Tryz.underlying29, World.setCells]⟩
  · obtain ⟨m, rfl⟩ := Nat.exists_eq_succ_of_ne_zero (Nat.ne_of_gt hn)
    have hz : ∀ w, (zeroValue 23).run Tryz.prog w = .ok (.agg (Array.replicate 32 (.int .u8 0))) w := fun w => by kernel_rfl
    have hl : (Builtin.zeroCells (Array.replicate 32 (.int .u8 0)) (m + 1)).toList.length = (m + 1) * 32 := by simp [Builtin.zeroCells]
    have hone : ∀ v ∈ (Builtin.zeroCells (Array.replicate 32 (.int .u8 0)) (m + 1)).toList, v.oneCell' = true := by
      intro v hv
      simp only [Builtin.zeroCells, Array.toList_map, List.mem_map] at hv
      obtain ⟨i, _, rfl⟩ := hv
      have hi : i % 32 < (Array.replicate 32 (Value.int .u8 0)).size := by simp; omega
      simp only [Array.size_replicate]
      rw [getElem!_pos _ (i % 32) hi, Array.getElem_replicate]; rfl
    have hst := run_storeCells_cells (P := Tryz.prog) g k (Builtin.zeroCells (Array.replicate 32 (.int .u8 0)) (m + 1)).toList 0 w (fun j hj => by rw [hl] at hj; simpa using (h j hj).1) (fun j hj => by rw [hl] at hj; simpa using (h j hj).2) hone
    exact ⟨(Builtin.zeroCells (Array.replicate 32 (.int .u8 0)) (m + 1)).toList, fun ty => by simp [Builtin.clear_, run_underlying Tryz.underlying29, hz, Value.cells, hst, Result.andThen]⟩
set_option maxRecDepth 100000 in
set_option maxHeartbeats 4000000 in
theorem compactC (d : Array Id) (w0 w : World) (g off cap : Nat) (hb : w0.heap.size ≤ g) (hG : Gr w0 w) (hgw : g < w.heap.size) (hR : Rows32 w g off d) (hc : d.size ≤ cap) (hsz : d.size ≤ 1000000) :
    Calls Tryz.prog 46 #[.slice (some ⟨g, off, none⟩) d.size cap] w (CompPost d g off cap w0) := by
  have HR := Lib.hid hR; have HG := Lib.hid hG
  clear hR hG
  by_cases h2 : d.size < 2
  · go_enter Tryz.func46, Tryz.ntmps46
    go_wp2_with fail
    go_ret
    exact comp_all HR.out hc hgw (fun j hj => Lib.keeps_lt_one d j (by omega)) 0 rfl HG.out
  · go_enter Tryz.func46, Tryz.ntmps46
    go_wp2_with fail
    go_loopw [3, 10, 11, 12, 13, 14, 15, 16, 17, 18, 19, 20, 21, 22, 23, 24, 25] (fun i _ _ _ _ _ _ _ _ _ _ _ _ _ _ _ _ wr => ∃ k q : Nat, 1 ≤ k ∧ k ≤ d.size ∧ i = .int .i64 k ∧ Hid (∀ j, j < k → Lib.keeps d j = true) ∧ wr = w.drewN q) (fun i _ _ _ _ _ _ _ _ _ _ _ _ _ _ _ _ _ => d.size - (intOf i).toNat)
    case atStart => exact ⟨1, 0, Nat.le_refl _, by omega, rfl, Lib.keeps_lt_one d, rfl⟩
    case round =>
      obtain ⟨k, q, hk1, hk, rfl, hall, rfl⟩ := hrel
      by_cases hlt : k < d.size
      · obtain ⟨a1, _, a3⟩ := HR.out k hlt
        obtain ⟨b1, _, b3⟩ := HR.out (k - 1) (by omega)
        have hk2 : (0 : Int) ≤ (k : Int) := by omega
        have hk3 : (k : Int) < (d.size : Int) := by omega
        have HP := Lib.hid (fun h => Lib.keeps_pos (d := d) (m := k) h)
        have HN := Lib.hid (fun h => Lib.keeps_neg (d := d) (m := k) (by omega) h)
        generalize d[k]! = x at *
        generalize d[k - 1]! = y at *
        cases hxy : (x == y) with
        | true =>
          have HX : Hid (x = y) := by show x = y; simpa using hxy
          go_wp2_with fail
          go_quiet (fail)
          go_wp2_with fail
          have HST : Hid (Lib.CompInv d (k + 1) k d) := Lib.CompInv.start hall.out (HN.out HX.out)
          have HRW := Lib.hid (HR.out.drewN (q + nq))
          have HGW := Lib.hid (HG.out.drewN (q + nq))
          have HZW : Hid (g < (w.drewN (q + nq)).heap.size) := by show _ < _; simpa using hgw
          clear a1 a3 b1 b3
          generalize w.drewN (q + nq) = V at *
          go_loopw [3, 5, 29, 30, 31, 32, 33, 34, 35, 36, 37, 38, 39, 40, 41, 42, 43, 44, 45, 46, 47, 48, 49, 50, 51, 52, 53] (fun s3 s5 _ _ _ _ _ _ _ _ _ _ _ _ _ _ _ _ _ _ _ _ _ _ _ _ _ wr => ∃ (kk k2 : Nat) (dk : Array Id), s3 = .int .i64 kk ∧ s5 = .int .i64 k2 ∧ 1 ≤ k2 ∧ k + k2 ≤ d.size ∧ Hid (Rows32 wr g off dk) ∧ Hid (Gr w0 wr) ∧ Hid (g < wr.heap.size) ∧ Hid (Lib.CompInv d (k + k2) kk dk)) (fun _ s5 _ _ _ _ _ _ _ _ _ _ _ _ _ _ _ _ _ _ _ _ _ _ _ _ _ _ => d.size - (intOf s5).toNat)
          case atStart => exact ⟨k, 1, d, rfl, rfl, Nat.le_refl _, by omega, HRW.out, HGW.out, HZW.out, HST.out⟩
          case round =>
            obtain ⟨kk, k2, dk, rfl, rfl, hk21, hle, hRr, hGr, hZr, hI⟩ := hrel
            have hkk := hI.out.lt
            have hds := Lib.hid hI.out.size
            by_cases hlt2 : k + k2 < d.size
            · obtain ⟨a1, _, a3⟩ := hRr.out (k + k2) (by rw [hds.out]; exact hlt2)
              obtain ⟨b1, _, b3⟩ := hRr.out (k + k2 - 1) (by rw [hds.out]; omega)
              rw [hI.out.high (k + k2) (by omega)] at a3
              rw [hI.out.high (k + k2 - 1) (by omega)] at b3
              rw [show off + (k + k2) * 32 = off + k * 32 + k2 * 32 by omega] at a1 a3
              rw [show off + (k + k2 - 1) * 32 = off + k * 32 + (k2 - 1) * 32 by omega] at b1 b3
              have HP2 := Lib.hid (fun h => hI.out.keep hlt2 (Lib.keeps_pos (d := d) (m := k + k2) h))
              have HN2 := Lib.hid (fun h => hI.out.skip (Lib.keeps_neg (d := d) (m := k + k2) (by omega) h))
              have n1 : (k2 : Int) < ((d.size - k : Nat) : Int) := by omega
              have n2 : (0 : Int) ≤ (k2 : Int) - 1 := by omega
              have n3 : (k2 : Int) - 1 < ((d.size - k : Nat) : Int) := by omega
              have n4 : (1 : Int) ≤ (k2 : Int) := by omega
              have n5 : (0 : Int) ≤ (k2 : Int) := by omega
              have n6 : (kk : Int) < (d.size : Int) := by omega
              have n7 : (0 : Int) ≤ (kk : Int) := by omega
              have n8 : k2 < d.size - k := by omega
              generalize d[k + k2]! = x2 at *
              generalize d[k + k2 - 1]! = y2 at *
              cases hxy2 : (x2 == y2) with
              | true =>
                have HX2 : Hid (x2 = y2) := by show x2 = y2; simpa using hxy2
                go_wp2_with fail
                go_quiet (fail)
                go_wp2_with fail
                go_roundw
                case rel => exact ⟨kk, k2 + 1, dk, rfl, by go_num, by omega, by omega, hRr.out.drewN _, hGr.out.drewN _, by show _ < _; simpa using hZr.out, HN2.out HX2.out⟩
                case measure => simp [intOf]; omega
              | false =>
                have HX2 : Hid (x2 ≠ y2) := by show x2 ≠ y2; simpa using hxy2
                go_wp2_with fail
                go_quiet (fail)
                have R' := hRr.out.drewN nq
                have G' := Lib.hid (hGr.out.drewN nq)
                have Z' : Hid (g < (wr.drewN nq).heap.size) := by show _ < _; simpa using hZr.out
                have a1' := (hasRow_drewN wr nq ⟨g, off + k * 32 + k2 * 32, none⟩ 32).trans a1
                have a3' := (rowAt_drewN wr nq ⟨g, off + k * 32 + k2 * 32, none⟩ 32).trans a3
                obtain ⟨c1, c2, _⟩ := R' kk (by rw [hds.out]; omega)
                have RR := Lib.hid R'
                clear a1 a3 b1 b3 R'
                generalize wr.drewN nq = V2 at *
                go_wp2_with fail
                go_roundw
                case rel => exact ⟨kk + 1, k2 + 1, dk.setIfInBounds kk x2, by go_num, by go_num, by omega, by omega, RR.out.set kk (by rw [hds.out]; omega) x2, Gr.setCells g hb _ _ _ G'.out, by show _ < _; rw [size_setC]; exact Z'.out, HP2.out HX2.out⟩
                case measure => simp [intOf]; omega
            · have hend : k + k2 = d.size := by omega
              have hI2 : Hid (Lib.CompInv d d.size kk dk) := by rw [← hend]; exact hI
              have m1 : kk < cap := by omega
              have m2 : (kk : Int) ≤ (d.size : Int) := by omega
              have m3 : (0 : Int) ≤ (kk : Int) := by omega
              have m4 : (kk : Int) ≤ (cap : Int) := by omega
              have m5 : kk < d.size := by omega
              obtain ⟨cs, hcl⟩ := clear_run wr g (off + kk * 32) (d.size - kk) (cap - kk) (fun j hj => by
                have hq : kk + j / 32 < dk.size := by rw [hds.out]; omega
                obtain ⟨p1, p2, _⟩ := hRr.out (kk + j / 32) hq
                have e : off + kk * 32 + j = off + (kk + j / 32) * 32 + j % 32 := by omega
                have p1' := hasRow_iff.1 p1 (j % 32) (by omega)
                have p2' := freeRow_iff.1 p2 (j % 32) (by omega)
                rw [Addr.add_lit] at p1' p2'
                rw [e]; exact ⟨p1', p2'⟩)
              have n1 : ¬ (k2 : Int) < ((d.size - k : Nat) : Int) := by omega
              clear hI HST
              go_wp2_with fail
              go_ret
              refine ⟨kk, rfl, ?_, Gr.setCells g hb _ _ _ hGr.out⟩
              refine idsAt_rows hI2.out.len (by omega) (by rw [size_setC]; exact hZr.out) (fun j hj => ?_)
              rw [hI2.out.len] at hj
              obtain ⟨p1, _, p3⟩ := hRr.out j (by rw [hds.out]; omega)
              have hout : ∀ c, c < 32 → (wr.setCells g (off + kk * 32) cs).cell? ((⟨g, off + j * 32, none⟩ : Addr).add c) = wr.cell? ((⟨g, off + j * 32, none⟩ : Addr).add c) := fun c hc => by
                rw [Addr.add_lit]
                refine World.cell?_setCells_out g cs (off + kk * 32) wr _ (fun _ _ => ?_)
                show off + j * 32 + c < off + kk * 32 ∨ _
                omega
              refine ⟨(hasRow_congr hout).trans p1, ?_⟩
              rw [rowAt_congr hout, p3]
              have h9 := hI2.out.low j hj
              rw [List.getElem?_eq_getElem (by rw [hI2.out.len]; exact hj)] at h9
              rw [Option.some.inj h9]
        | false =>
          have HX : Hid (x ≠ y) := by show x ≠ y; simpa using hxy
          go_wp2_with fail
          go_quiet (fail)
          go_wp2_with fail
          go_roundw
          case rel =>
            refine ⟨k + 1, _, by omega, by omega, by go_num, ?_, rfl⟩
            intro j hj
            by_cases e : j = k
            · subst e; exact HP.out HX.out
            · exact hall.out j (by omega)
          case measure => simp [intOf]; omega
      · go_wp2_with fail
        go_ret
        have e : k = d.size := by omega
        exact comp_all HR.out hc hgw (fun j hj => hall.out j (by omega)) q rfl (HG.out.drewN q)
end Go.Proofs.YtemhfcfebkjioaaGreatDoor

/- Registry.Add: what it does to the definitions. -/
import Derived.Test.YtemhfcfebkjioaaGreatDoorAuth
import Derived.Deep.RegionHeld3
namespace Go.Proofs.YtemhfcfebkjioaaGreatDoor
open Go.RowKit

/-- A registry of the one authority with its definitions. -/
def Reg (w : World) (n br bm : Nat) (ents : List (Dfn × List Aut)) : Prop := RegMem w n br bm ∧ ∃ D, Defs w bm ents.length D ents
theorem Reg.gr {w w' : World} {n br bm : Nat} {ents : List (Dfn × List Aut)} (h : Reg w n br bm ents) (hg : Gr w w') : Reg w' n br bm ents := by
  obtain ⟨h1, D, h2⟩ := h
  exact ⟨h1.keepC hg.keepsC, D, h2.gr hg⟩
theorem Reg.at {w : World} {n br bm : Nat} {ents : List (Dfn × List Aut)} (h : Reg w n br bm ents) (h12 : ents.length ≤ 12) : RegAt w (some br) ents := by
  obtain ⟨⟨g, c, q, c2, lb, rest, rest2, n1, h1, _⟩, D, h2⟩ := h
  exact ⟨bm, _, D, (cell_of_row w br 2 _ _ _ h1).trans rfl, h2, h12⟩
abbrev Vis := Id × ByteArray × List Aut
/-- What a definition shows. -/
def vis (e : Dfn × List Aut) : Vis := (e.1.id, e.1.group, e.2)
def accOk (d : Dfn) (l : List Aut) : Bool := (dfnErr d l == 0) && isAuthB d.group d.author
def addV (L : List Vis) (d : Dfn) (l : List Aut) : List Vis := if (accOk d l && !(L.any fun v => v.1 == d.id)) = true then L ++ [(d.id, d.group, l)] else L
def AddPost (n br bm : Nat) (d : Dfn) (l : List Aut) (ents : List (Dfn × List Aut)) (w : World) (e : Ending) (w' : World) : Prop :=
  ∃ r ents', e = .returned (.int .i64 r) ∧ Reg w' n br bm ents' ∧ w.grownBy w' (some bm) ∧ ents'.map vis = addV (ents.map vis) d l
theorem AddPost.same {n br bm : Nat} {d : Dfn} {l : List Aut} {ents : List (Dfn × List Aut)} {w w' : World} (r : Int) (h : Reg w n br bm ents) (hg : Gr w w') (hn : (accOk d l && !((ents.map vis).any fun v => v.1 == d.id)) = false) : AddPost n br bm d l ents w (.returned (.int .i64 r)) w' :=
  ⟨r, ents, rfl, h.gr hg, ⟨hg.os, hg.tape, hg.output, hg.size, fun k hk _ => hg.block hk⟩, by unfold addV; rw [hn]; rfl⟩

def dfn0 : Dfn := ⟨Vector.replicate 32 0, Vector.replicate 16 0, ⟨#[]⟩, 0, false, false, .slice none 0 0, ⟨#[]⟩⟩
theorem zeroDfn (w : World) : (zeroValue 52).run Tryz.prog w = .ok (.agg (dfnC dfn0).toArray) w := by kernel_rfl
theorem lookAll {w : World} {bm n : Nat} {D : DataW Value} {ents : List (Dfn × List Aut)} (h : Defs w bm n D ents) (x : Id) :
    ∃ dx : Dfn, dx.mods.oneCell' = true ∧ ∀ W, Gr w W → (Instr.lookup 125 (.map (some bm)) (.agg (bC x).toArray) true).run Tryz.prog W = .ok (.tuple #[.agg (dfnC dx).toArray, .bool (Maps.has D (kl x))]) W := by
  have key : ∀ W, Gr w W → ∃ dx : Dfn, D.atKey (kl x) (.held (.agg (dfnC dfn0).toArray)) = .held (.agg (dfnC dx).toArray) ∧ (Instr.lookup 125 (.map (some bm)) (.agg (bC x).toArray) true).run Tryz.prog W = .ok (.tuple #[.agg (dfnC dx).toArray, .bool (Maps.has D (kl x))]) W := by
    intro W hg
    obtain ⟨v, ps, hrun, hR⟩ := (h.gr hg).own.look_ok kId Tryz.underlying125 (zeroDfn W) (dR_mk dfn0) (kl_spec x)
    obtain ⟨dx, rfl⟩ := dR_inv hR
    exact ⟨dx, dR_eq hR, hrun⟩
  obtain ⟨dx, hd, _⟩ := key w (Gr.refl w)
  refine ⟨dx, ?_, fun W hg => ?_⟩
  · cases hh : Maps.has D (kl x) with
    | true =>
      obtain ⟨e, he, hk⟩ := (h.has _).1 hh
      rw [hk, h.elem e he] at hd
      have := dfnC_inj (List.toArray_inj (Value.agg.inj (DataW.held.inj hd)))
      rw [← this]
      obtain ⟨a, c, hv, _⟩ := (h.mods e he).1
      rw [hv]; rfl
    | false =>
      rw [Maps.atKey_of_not_has hh] at hd
      have := dfnC_inj (List.toArray_inj (Value.agg.inj (DataW.held.inj hd)))
      rw [← this]; rfl
  · obtain ⟨dx', hd', hrun⟩ := key W hg
    rw [hd] at hd'
    rw [dfnC_inj (List.toArray_inj (Value.agg.inj (DataW.held.inj hd')))]; exact hrun

theorem SlAt.turn {w w' : World} {v : Value} {n : Nat} {l : List (List Value)} (h : SlAt w v n l) (hn : 0 < n) (hk : ∀ b k u, w.cell? ⟨b, k, none⟩ = some u → w'.heap[b]? = w.heap[b]?) (hs : w.heap.size ≤ w'.heap.size) : SlAt w' v n l := by
  obtain ⟨a, cap, hv, hc, hj⟩ := h
  refine ⟨a, cap, hv, hc, fun j hlt => ?_⟩
  obtain ⟨b, k, ha, hb, h1, h2⟩ := hj j hlt
  have h0 := hasRow_iff.1 h1 0 hn
  rw [Addr.add_lit] at h0
  obtain ⟨u, hu⟩ := Option.isSome_iff_exists.1 h0
  have hh := hk b _ u hu
  have hcell : ∀ i, i < n → w'.cell? ((⟨b, k + j * n, none⟩ : Addr).add i) = w.cell? ((⟨b, k + j * n, none⟩ : Addr).add i) := fun i _ => World.cell?_of_block (w := w) (by rw [add_block]; exact hh)
  exact ⟨b, k, ha, Nat.lt_of_lt_of_le hb hs, (hasRow_congr hcell).trans h1, (rowAt_congr hcell).trans h2⟩
theorem turn_cell {w w' : World} {bm : Nat} (h : w.mapTurned w' bm) : ∀ b k u, w.cell? ⟨b, k, none⟩ = some u → w'.heap[b]? = w.heap[b]? := by
  intro b k u hu
  have hg := h.grown
  obtain ⟨es, clock, es', clock', hb, _⟩ := h
  refine hg.block b (World.block_lt_of_cell? w _ hu) (fun e => ?_)
  cases e
  simp [World.cell?, hb] at hu
theorem turn_keepsC {w w' : World} {bm : Nat} (h : w.mapTurned w' bm) : KeepsC w w' := by
  intro j cs t fr hj
  have hg := h.grown
  obtain ⟨es, clock, es', clock', hb, _⟩ := h
  refine hg.block j (Array.getElem?_eq_some_iff.1 hj).1 (fun e => ?_)
  cases e
  rw [hb] at hj
  cases hj
theorem storeAll {w w4 : World} {bm n : Nat} {D : DataW Value} {ents : List (Dfn × List Aut)} (h : Defs w bm n D ents) (hn : n ≤ 1000) (hg : Gr w w4) (d : Dfn) (l : List Aut) (hh : Maps.has D (kl d.id) = false) (ha : AutsAt w4 d.mods l) (hl : l.length ≤ 8) :
    ∃ w5, (Instr.mapUpdate 125 (.map (some bm)) (.agg (bC d.id).toArray) (.agg (dfnC d).toArray)).run Tryz.prog w4 = .ok () w5 ∧ (∃ D', Defs w5 bm (n + 1) D' (ents ++ [(d, l)])) ∧ w4.mapTurned w5 bm := by
  have h4 := h.gr hg
  obtain ⟨w5, hrun, hown, hturn⟩ := h4.own.store kId Tryz.underlying125 (by unfold maxLen; omega) (kl_spec d.id) (dR_mk d)
  have hM := h4.own.isMap
  have hk := kl_key d.id
  refine ⟨w5, hrun, ⟨D.put (kl d.id) (.held (.agg (dfnC d).toArray)), ⟨hown, ?_, ?_, ?_, ?_, ?_⟩⟩, hturn⟩
  · intro k
    by_cases e : k = kl d.id
    · subst e
      rw [Maps.has_put_same hM hk]
      exact ⟨fun _ => ⟨(d, l), by simp, rfl⟩, fun _ => rfl⟩
    · rw [Maps.has_put_other e, h.has]
      constructor
      · rintro ⟨x, hx, hk'⟩; exact ⟨x, by simp [hx], hk'⟩
      · rintro ⟨x, hx, hk'⟩
        rcases List.mem_append.1 hx with hx | hx
        · exact ⟨x, hx, hk'⟩
        · simp at hx; rw [hx] at hk'; exact absurd hk' e
  · intro e he z
    rcases List.mem_append.1 he with he | he
    · have hne : kl e.1.id ≠ kl d.id := fun q => by
        have := (h.has _).2 ⟨e, he, rfl⟩
        rw [q, hh] at this; cases this
      rw [Maps.atKey_put_other hne]; exact h.elem e he z
    · simp at he; subst he; exact Maps.atKey_put_same hM hk _ z
  · rw [Maps.size_put (h4.own.tidy kId), hh, List.length_append, h.size]; rfl
  · have hne : ∀ e ∈ ents, e.1.id ≠ d.id := fun e he q => by
      have := (h.has _).2 ⟨e, he, rfl⟩
      rw [q, hh] at this; cases this
    intro e he e' he' hq
    rcases List.mem_append.1 he with he | he <;> rcases List.mem_append.1 he' with he' | he'
    · exact h.apart e he e' he' hq
    · simp at he'; subst he'; exact absurd hq (hne e he)
    · simp at he; subst he; exact absurd hq.symm (hne e' he')
    · simp at he he'; rw [he, he']
  · intro e he
    have ht := turn_cell hturn
    have hs := hturn.grown.size
    rcases List.mem_append.1 he with he | he
    · exact ⟨(h4.mods e he).1.turn (by decide) ht hs, (h4.mods e he).2⟩
    · simp at he; subst he; exact ⟨ha.turn (by decide) ht hs, hl⟩

theorem setCells_drew (b : Nat) : ∀ (cs : List Value) (k : Nat) (w : World), w.drew.setCells b k cs = (w.setCells b k cs).drew
  | [], _, _ => rfl
  | v :: cs, k, w => setCells_drew b cs (k + 1) (w.setCell ⟨b, k, none⟩ v)
@[go_sem] theorem setCells_whole_drew (w : World) (t : TypeId) (b : Nat) (z cs : List Value) (hb : b = w.heap.size) (hz : cs.length = z.length) : (w.alloc (.cells z.toArray t)).drew.setCells b 0 cs = (w.alloc (.cells cs.toArray t)).drew := by
  rw [setCells_drew, setCells_whole w t b z cs hb hz]
theorem range_of_row {w : World} {b n : Nat} {x : Vector UInt8 n} (h1 : hasRow w ⟨b, 0, none⟩ n = true) (h2 : rowAt w ⟨b, 0, none⟩ n = bC x) : w.rangeAt b 0 (bC x) := by
  intro j v hj
  have hjn : j < n := by have := (List.getElem?_eq_some_iff.1 hj).1; rwa [bC_length] at this
  rw [← h2, rowAt, List.getElem?_map, List.getElem?_range hjn, Option.map_some] at hj
  have h0 := hasRow_iff.1 h1 j hjn
  obtain ⟨y, hy⟩ := Option.isSome_iff_exists.1 h0
  rw [hy] at hj
  rw [Addr.add_lit] at hy
  rw [hy]; exact hj
def KeepsRow (br bm b : Nat) (d : Dfn) (u : World) : Prop := u.cell? ⟨br, 2, none⟩ = some (.map (some bm)) ∧ u.rangeAt b 0 (bC d.id) ∧ hasRow u ⟨b, 0, none⟩ 54 = true ∧ rowAt u ⟨b, 0, none⟩ 54 = dfnC d
theorem keepRow {w u : World} (g : Gr w u) {br bm b : Nat} {d : Dfn} (zr : br < w.heap.size) (z : b < w.heap.size) (m : w.cell? ⟨br, 2, none⟩ = some (.map (some bm))) (i1 : hasRow w ⟨b, 0, none⟩ 32 = true) (i2 : rowAt w ⟨b, 0, none⟩ 32 = bC d.id) (i3 : hasRow w ⟨b, 0, none⟩ 54 = true) (i4 : rowAt w ⟨b, 0, none⟩ 54 = dfnC d) : KeepsRow br bm b d u :=
  ⟨(g.cell (p := ⟨br, 2, none⟩) zr).trans m, range_of_row ((g.hasRow z).trans i1) ((g.rowAt z).trans i2), (g.hasRow z).trans i3, (g.rowAt z).trans i4⟩
theorem keepTurn {u v : World} {br bm b : Nat} {d : Dfn} (t : u.mapTurned v bm) (h : KeepsRow br bm b d u) : KeepsRow br bm b d v := by
  obtain ⟨h1, h2, h3, h4⟩ := h
  have ht := turn_cell t
  obtain ⟨y, hy⟩ := Option.isSome_iff_exists.1 (hasRow_iff.1 h3 0 (by decide))
  rw [Addr.add_lit] at hy
  have hb := ht _ _ _ hy
  have hc : ∀ k, v.cell? ⟨b, k, none⟩ = u.cell? ⟨b, k, none⟩ := fun k => World.cell?_of_block (w := u) hb
  have hc' : ∀ i, i < 54 → v.cell? ((⟨b, 0, none⟩ : Addr).add i) = u.cell? ((⟨b, 0, none⟩ : Addr).add i) := fun i _ => by rw [Addr.add_lit]; exact hc _
  exact ⟨(World.cell?_of_block (w := u) (ht _ _ _ h1)).trans h1, fun j x hx => (hc _).trans (h2 j x hx), (hasRow_congr hc').trans h3, (rowAt_congr hc').trans h4⟩
theorem addDone (n br bm : Nat) (d : Dfn) (l : List Aut) (ents : List (Dfn × List Aut)) (w w4 w5 : World) (v : Value) {e : Ending} (he : e = .returned (.int .i64 0)) (hr : Reg w n br bm ents) (hg : Gr w w4) (hD : ∃ D', Defs w5 bm (ents.length + 1) D' (ents ++ [(withMods d v, l)])) (ht : w4.mapTurned w5 bm) (hacc : (accOk d l && !((ents.map vis).any fun v => v.1 == d.id)) = true) : AddPost n br bm d l ents w e w5 := by
  obtain ⟨D', hD'⟩ := hD
  have hgr := ht.grown
  refine ⟨0, ents ++ [(withMods d v, l)], he, ⟨(hr.1.keepC hg.keepsC).keepC (turn_keepsC ht), D', by rw [List.length_append]; exact hD'⟩, ⟨hgr.os.trans hg.os, hgr.tape.trans hg.tape, hgr.output.trans hg.output, Nat.le_trans hg.size hgr.size, fun k hk hne => (hgr.block k (Nat.lt_of_lt_of_le hk hg.size) hne).trans (hg.block hk)⟩, ?_⟩
  unfold addV
  rw [hacc, List.map_append]
  rfl
theorem err0_name {d : Dfn} {l : List Aut} (h : dfnErr d l = 0) : d.group.size ≤ 80 ∧ l.length ≤ 8 := by
  unfold dfnErr at h
  split at h
  · contradiction
  · rename_i hn
    have hn0 : nameErr d.group = 0 := by simpa using hn
    refine ⟨?_, ?_⟩
    · unfold nameErr at hn0
      split at hn0
      · cases hn0
      · omega
    · split at h
      · cases h
      · split at h
        · cases h
        · split at h
          · cases h
          · omega
theorem any_vis (ents : List (Dfn × List Aut)) (x : Id) {w : World} {bm n : Nat} {D : DataW Value} (h : Defs w bm n D ents) : Maps.has D (kl x) = (ents.map vis).any fun v => v.1 == x := by
  rw [Bool.eq_iff_iff, h.has, List.any_eq_true]
  constructor
  · rintro ⟨e, he, hk⟩; exact ⟨vis e, List.mem_map_of_mem he, by simp [vis, kl_inj hk]⟩
  · rintro ⟨v, hv, hx⟩
    obtain ⟨e, he, rfl⟩ := List.mem_map.1 hv
    exact ⟨e, he, by rw [← (by simpa [vis] using hx : e.1.id = x)]⟩
set_option maxRecDepth 100000 in
set_option maxHeartbeats 4000000 in
theorem addC (n br bm : Nat) (d : Dfn) (l : List Aut) (ents : List (Dfn × List Aut)) (w : World) (hE : Env w) (hv : AutsAt w d.mods l) (hr : Reg w n br bm ents) (h12 : ents.length ≤ 1000) :
    Calls Tryz.prog 35 #[.pointer (some ⟨br, 0, none⟩), .agg (dfnC d).toArray] w (AddPost n br bm d l ents w) := by
  have g0 := (Gr.refl w).alloc (.cells (dfnC d).toArray 52)
  have HC := Lib.hid (dfnCheck d l _ (hE.gr g0) (hv.gr g0))
  have B0 := Lib.hid (heap_alloc_new w (.cells (dfnC d).toArray 52))
  have G0 := Lib.hid g0
  have HR := Lib.hid hr
  have HV := Lib.hid hv
  clear g0 hE hv hr
  by_cases he : dfnErr d l = 0
  · obtain ⟨hsz, hl8⟩ := err0_name he
    rw [he] at HC
    cases ha : isAuthB d.group d.author with
    | false =>
      have hacc : Hid (accOk d l = false) := by show _ = _; unfold accOk; rw [ha, Bool.and_false]
      go_enter Tryz.func35, Tryz.ntmps35
      go_wp2_with fail
      refine HC.out.mono ?_
      rintro e w1 ⟨rfl, hg1⟩
      have b1 := (hg1.block (b := w.heap.size) (by simp)).trans B0.out
      have g1 := G0.out.trans hg1
      have c1 := (cell_block b1 48).trans (dfn_group d)
      have q1 := hasRow_block b1 32 16 (by rw [dfnC_length]; decide)
      have q2 := (rowAt_block b1 32 16 (by rw [dfnC_length]; decide)).trans (dfn_author d)
      have HA := Lib.hid (isAuthC n br bm d.group d.author w1 (HR.out.gr g1).1 (by omega))
      rw [ha] at HA
      have B1 := Lib.hid b1; have G1 := Lib.hid g1
      clear b1 g1 hg1
      go_wp2_with fail
      refine HA.out.mono ?_
      rintro e w2 ⟨rfl, hg2⟩
      have HG2 := Lib.hid (G1.out.trans hg2)
      clear hg2
      go_wp2_with fail
      go_ret
      exact AddPost.same _ HR.out HG2.out (by rw [hacc.out, Bool.false_and])
    | true =>
      have hacc : Hid (accOk d l = true) := by show _ = _; unfold accOk; rw [he, ha]; rfl
      go_enter Tryz.func35, Tryz.ntmps35
      go_wp2_with fail
      refine HC.out.mono ?_
      rintro e w1 ⟨rfl, hg1⟩
      have b1 := (hg1.block (b := w.heap.size) (by simp)).trans B0.out
      have g1 := G0.out.trans hg1
      have c1 := (cell_block b1 48).trans (dfn_group d)
      have q1 := hasRow_block b1 32 16 (by rw [dfnC_length]; decide)
      have q2 := (rowAt_block b1 32 16 (by rw [dfnC_length]; decide)).trans (dfn_author d)
      have HA := Lib.hid (isAuthC n br bm d.group d.author w1 (HR.out.gr g1).1 (by omega))
      rw [ha] at HA
      have B1 := Lib.hid b1; have G1 := Lib.hid g1
      clear b1 g1 hg1
      go_wp2_with fail
      refine HA.out.mono ?_
      rintro e w2 ⟨rfl, hg2⟩
      have z1 := (Array.getElem?_eq_some_iff.1 B1.out).1
      have b2 := (hg2.block z1).trans B1.out
      have g2 := G1.out.trans hg2
      obtain ⟨hrm, D, hD⟩ := HR.out.gr g2
      obtain ⟨dx, hdx, hlook⟩ := lookAll hD d.id
      have ax := Lib.hid (any_vis ents d.id hD)
      have m2 : w2.cell? ⟨br, 2, none⟩ = some (.map (some bm)) := by obtain ⟨_, _, _, _, _, _, _, _, h1, _⟩ := hrm; exact (cell_of_row w2 br 2 _ _ _ h1).trans rfl
      have i1 := hasRow_block b2 0 32 (by rw [dfnC_length]; decide)
      have i2 := (rowAt_block b2 0 32 (by rw [dfnC_length]; decide)).trans (dfn_id d)
      have z2 : w.heap.size < w2.heap.size := (Array.getElem?_eq_some_iff.1 b2).1
      have zr : br < w2.heap.size := World.block_lt_of_cell? w2 _ m2
      have B2 := Lib.hid b2; have G2 := Lib.hid g2; have HD := Lib.hid hD; have HRM := Lib.hid hrm
      have hl1 := hlook w2.drew (Gr.refl w2).drew
      have hl2 := fun o => hlook (w2.alloc o).drew ((Gr.refl w2).alloc o).drew
      have ho : oneB (dfnC dx) = true := by simp [dfnC, oneB_append, oneB_cons, oneB_bC, oneB_nil, Value.oneCell'] at hdx ⊢; exact hdx
      clear b2 g2 hg2 hD hrm hlook c1 q1 q2
      cases hh : Maps.has D (kl d.id) with
      | true =>
        rw [hh] at hl1; simp only [hh] at hl2
        go_wp2_with fail
        go_big_region
        go_wp2_with fail
        go_ret
        exact AddPost.same _ HR.out ((G2.out.alloc _).drew) (by rw [← ax.out, hh, Bool.not_true, Bool.and_false])
      | false =>
        rw [hh] at hl1; simp only [hh] at hl2
        go_wp2_with fail
        go_big_region
        have g3 := ((Gr.refl w2).alloc (.cells (dfnC dx).toArray 52)).drew
        have D3 := Lib.hid (HD.out.gr g3)
        have hlen := D3.out.own.len Tryz.underlying125 3
        rw [HD.out.size] at hlen
        have hle : ((4096 : Int) ≤ (ents.length : Int)) = False := by simp; omega
        have m3 := (g3.cell (p := ⟨br, 2, none⟩) zr).trans m2
        have b3 := (g3.block z2).trans B2.out
        have i1 := hasRow_block b3 0 32 (by rw [dfnC_length]; decide)
        have i2 := (rowAt_block b3 0 32 (by rw [dfnC_length]; decide)).trans (dfn_id d)
        have i3 := hasRow_block b3 0 54 (by rw [dfnC_length]; decide)
        have i4 := (rowAt_block b3 0 54 (by rw [dfnC_length]; decide)).trans (dfn_whole d)
        have I3 := Lib.hid i3; have I4 := Lib.hid i4
        have G3 := Lib.hid (G2.out.trans g3)
        have HCL := Lib.hid (cloneD d l _ (HV.out.gr (G2.out.trans g3).drew) (by omega))
        clear b3 g3
        generalize (w2.alloc (.cells (dfnC dx).toArray 52)).drew = w3 at *
        go_wp2_with fail
        have z3 : w.heap.size < w3.heap.size := hasRow_lt i1 (by decide)
        have zr3 : br < w3.heap.size := World.block_lt_of_cell? w3 _ m3
        have HH := Lib.hid hh
        clear hl1 hl2 hlen i3 i4 hh
        have i3 : hasRow w3 ⟨w.heap.size, 0, none⟩ 54 = true := I3.out
        have i4 : rowAt w3 ⟨w.heap.size, 0, none⟩ 54 = dfnC d := I4.out
        have hu23 := Tryz.underlying23
        have hi23 : (Tryz.prog.info? 23).map (·.size) = some (bC d.id).length := by rw [bC_length]; kernel_rfl
        have rg3 : w3.rangeAt w.heap.size 0 (bC d.id) := range_of_row i1 i2
        go_region_held3 (fun u => u.cell? ⟨br, 2, none⟩ = some (.map (some bm)) ∧ u.rangeAt w.heap.size 0 (bC d.id) ∧ hasRow u ⟨w.heap.size, 0, none⟩ 54 = true ∧ rowAt u ⟨w.heap.size, 0, none⟩ 54 = dfnC d) (first | exact ⟨m3, rg3, i3, i4⟩ | exact hkeep4 | exact hkeep5) (first | (go_at_call 65; refine HCL.out.mono ?_; rintro e w4 ⟨a', n', c', rfl, hau, hg4⟩; have g4 := (Gr.refl w3).drew.trans hg4; obtain ⟨w5, hst, hD5, ht5⟩ := storeAll D3.out (by omega) g4 (withMods d (.slice a' n' c')) l HH.out hau (by omega); have hst' : (Instr.mapUpdate 125 (.map (some bm)) (.agg (bC d.id).toArray) (.agg (dfnC (withMods d (.slice a' n' c'))).toArray)).run Tryz.prog w4 = .ok () w5 := hst; have hkeep4 := keepRow g4 zr3 z3 m3 i1 i2 i3 i4; have hkeep5 := keepTurn ht5 hkeep4; have G4 := Lib.hid g4; have D5 := Lib.hid hD5; have T5 := Lib.hid ht5; clear hst hD5 ht5 hg4 g4 hau))
        go_wp2_with fail
        go_ret
        exact addDone n br bm d l ents w w4 w5 _ rfl HR.out (G3.out.trans G4.out) D5.out T5.out (by rw [hacc.out, ← ax.out, HH.out]; rfl)
  · have hacc : Hid (accOk d l = false) := by show _ = _; unfold accOk; simp [he]
    have he' : (dfnErr d l == 0) = false := by simpa using he
    go_enter Tryz.func35, Tryz.ntmps35
    go_wp2_with fail
    refine HC.out.mono ?_
    rintro e w1 ⟨rfl, hg1⟩
    have HG1 := Lib.hid (G0.out.trans hg1)
    clear hg1
    generalize dfnErr d l = er at *
    go_wp2_with fail
    go_ret
    exact AddPost.same _ HR.out HG1.out (by rw [hacc.out, Bool.false_and])
end Go.Proofs.YtemhfcfebkjioaaGreatDoor

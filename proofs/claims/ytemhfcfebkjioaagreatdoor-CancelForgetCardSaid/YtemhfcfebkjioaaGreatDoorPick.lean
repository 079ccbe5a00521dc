/- The registry's definitions as a map; pick and EverModerator. -/
import Derived.Test.YtemhfcfebkjioaaGreatDoorSort
namespace Go.Proofs.YtemhfcfebkjioaaGreatDoor
open Go.RowKit
open Go.Maps (Keyed)

theorem fill_from : ∀ (l pre post : List Value), post.length = l.length → List.foldl (fun (cs : Array Value) (x : Value × Nat) => cs.setIfInBounds x.2 x.1) (pre ++ post).toArray (l.zipIdx pre.length) = (pre ++ l).toArray
  | [], pre, post, h => by obtain rfl : post = [] := List.length_eq_zero_iff.1 h; rfl
  | v :: l, pre, post, h => by
    obtain ⟨p, post', rfl⟩ : ∃ p q, post = p :: q := by cases post with | nil => simp at h | cons p q => exact ⟨p, q, rfl⟩
    have e : (pre ++ p :: post').toArray.setIfInBounds pre.length v = ((pre ++ [v]) ++ post').toArray := by simp
    rw [List.zipIdx_cons, List.foldl_cons, e]
    have := fill_from l (pre ++ [v]) post' (by simpa using h)
    simp only [List.length_append, List.length_cons, List.length_nil, Nat.zero_add, List.append_assoc, List.cons_append, List.nil_append] at this ⊢
    exact this
/-- A new row, filled by one aggregate. -/
@[go_sem] theorem fill_whole (l z : List Value) (h : z.length = l.length) : List.foldl (fun (cs : Array Value) (x : Value × Nat) => cs.setIfInBounds x.2 x.1) z.toArray l.zipIdx = l.toArray := by
  have := fill_from l [] z h
  simpa using this

open Classical in
/-- How an element of the map reads: as itself, where it is a definition. -/
noncomputable def dR (v : Value) : Option (DataW Value × List MemPlace) := if ∃ d : Dfn, v = .agg (dfnC d).toArray then some (.held v, []) else none
theorem dR_mk (d : Dfn) : dR (.agg (dfnC d).toArray) = some (.held (.agg (dfnC d).toArray), []) := if_pos ⟨d, rfl⟩
theorem dR_inv {v : Value} {y : DataW Value × List MemPlace} (h : dR v = some y) : ∃ d : Dfn, v = .agg (dfnC d).toArray := by
  unfold dR at h; split at h
  · assumption
  · cases h
theorem dR_eq {d : Dfn} {y : DataW Value × List MemPlace} (h : dR (.agg (dfnC d).toArray) = some y) : y.1 = .held (.agg (dfnC d).toArray) := by
  rw [dR_mk] at h; rw [← Option.some.inj h]
theorem dfnC_inj {a b : Dfn} (h : dfnC a = dfnC b) : a = b := by
  have e1 := bC_inj ((dfn_id a).symm.trans (h ▸ dfn_id b))
  have e2 := bC_inj ((dfn_author a).symm.trans (h ▸ dfn_author b))
  have g : ∀ k : Nat, (dfnC a)[k]? = (dfnC b)[k]? := fun k => by rw [h]
  have e3 := (dfn_group a).symm.trans ((g 48).trans (dfn_group b))
  have e4 := (dfn_version a).symm.trans ((g 49).trans (dfn_version b))
  have e5 := (dfn_removed a).symm.trans ((g 50).trans (dfn_removed b))
  have e6 := (dfn_moderated a).symm.trans ((g 51).trans (dfn_moderated b))
  have e7 := (dfn_mods a).symm.trans ((g 52).trans (dfn_mods b))
  have e8 := (dfn_text a).symm.trans ((g 53).trans (dfn_text b))
  cases a; cases b
  simp at e1 e2 e3 e4 e5 e6 e7 e8
  simp [*]

/-- The definitions that a map holds. -/
structure Defs (w : World) (bm n : Nat) (D : DataW Value) (ents : List (Dfn × List Aut)) : Prop where
  own : w.ownsMap Tryz.prog 23 dR bm n D
  has : ∀ k, Maps.has D k = true ↔ ∃ e ∈ ents, k = kl e.1.id
  elem : ∀ e ∈ ents, ∀ z, D.atKey (kl e.1.id) z = .held (.agg (dfnC e.1).toArray)
  size : Maps.size D = ents.length
  apart : ∀ e ∈ ents, ∀ e' ∈ ents, e.1.id = e'.1.id → e = e'
  mods : ∀ e ∈ ents, AutsAt w e.1.mods e.2 ∧ e.2.length ≤ 8
theorem Defs.gr {w w' : World} {bm n : Nat} {D : DataW Value} {ents : List (Dfn × List Aut)} (h : Defs w bm n D ents) (hg : Gr w w') : Defs w' bm n D ents :=
  ⟨h.own.kept hg.grownBy (by simp), h.has, h.elem, h.size, h.apart, fun e he => ⟨(h.mods e he).1.gr hg, (h.mods e he).2⟩⟩

theorem auts_one {w : World} {d : Dfn} {l : List Aut} (h : AutsAt w d.mods l) : oneB (dfnC d) = true := by
  obtain ⟨a, c, hv, _⟩ := h
  simp [dfnC, oneB_append, oneB_cons, oneB_bC, oneB_nil, Value.oneCell', hv]
def everB (ents : List (Dfn × List Aut)) (g : ByteArray) (x : Aut) : Bool := ents.any fun e => accB e.1 e.2 g x
def PickPost (ents : List (Dfn × List Aut)) (g : ByteArray) (x : Aut) (w : World) (e : Ending) (w' : World) : Prop := ∃ a n c, e = .returned (.slice a n c) ∧ decide (0 < n) = everB ents g x ∧ Gr w w'

/-- What has been picked so far: something just if something that has come was accepted. -/
def PickRel (ents : List (Dfn × List Aut)) (g : ByteArray) (x : Aut) (left : Lit → Bool) (acc : List Dfn1) : Prop :=
  (∀ k, left k = true → ∃ e ∈ ents, k = kl e.1.id) ∧ (acc = [] ↔ ∀ e ∈ ents, left (kl e.1.id) = false → accB e.1 e.2 g x = false)
theorem pick_start {w : World} {bm n : Nat} {D : DataW Value} {ents : List (Dfn × List Aut)} (h : Defs w bm n D ents) (g : ByteArray) (x : Aut) : PickRel ents g x (Maps.has D) [] :=
  ⟨fun k hk => (h.has k).1 hk, ⟨fun _ e he hf => absurd ((h.has _).2 ⟨e, he, rfl⟩) (by rw [hf]; decide), fun _ => rfl⟩⟩
theorem sameKey_iff (a b : Id) : (kl a).sameKey (kl b) = decide (a = b) := by
  by_cases h : a = b
  · subst h; rw [WideAt.sameKey_self (kl_key a)]; simp
  · rw [Maps.sameKey_ne (fun e => h (kl_inj e))]; simp [h]
theorem pick_step {ents : List (Dfn × List Aut)} {g : ByteArray} {x : Aut} {left : Lit → Bool} {acc : List Dfn1} (hap : ∀ e ∈ ents, ∀ e' ∈ ents, e.1.id = e'.1.id → e = e') (h : PickRel ents g x left acc) {e : Dfn × List Aut} (he : e ∈ ents) (acc' : List Dfn1)
    (hacc : acc' = [] ↔ acc = [] ∧ accB e.1 e.2 g x = false) (_hl : left (kl e.1.id) = true) : PickRel ents g x (fun z => left z && !z.sameKey (kl e.1.id)) acc' := by
  refine ⟨fun k hk => h.1 k (by simp at hk; exact hk.1), ?_⟩
  rw [hacc, h.2]
  constructor
  · rintro ⟨h1, h2⟩ e' he' hf
    simp only [Bool.and_eq_false_iff, Bool.not_eq_false'] at hf
    rcases hf with hf | hf
    · exact h1 e' he' hf
    · rw [sameKey_iff] at hf
      rw [hap e' he' e he (by simpa using hf)]; exact h2
  · intro h1
    refine ⟨fun e' he' hf => h1 e' he' (by simp [hf]), h1 e he ?_⟩
    show (left (kl e.1.id) && !(kl e.1.id).sameKey (kl e.1.id)) = false
    rw [sameKey_iff]; simp
theorem pick_end {ents : List (Dfn × List Aut)} {g : ByteArray} {x : Aut} {left : Lit → Bool} {acc : List Dfn1} (h : PickRel ents g x left acc) (hl : ∀ k, left k = false) : decide (0 < acc.length) = everB ents g x := by
  have h2 := h.2
  unfold everB
  cases hb : ents.any fun e => accB e.1 e.2 g x with
  | true =>
    obtain ⟨e, he, ha⟩ := List.any_eq_true.1 hb
    have : acc ≠ [] := fun h0 => by have := h2.1 h0 e he (hl _); rw [this] at ha; cases ha
    simpa using List.length_pos_iff.2 this
  | false =>
    have : acc = [] := h2.2 fun e he _ => by
      cases ha : accB e.1 e.2 g x with
      | true => rw [List.any_eq_true.2 ⟨e, he, ha⟩] at hb; cases hb
      | false => rfl
    rw [this]; rfl
theorem infoDfn : ∃ z, (Tryz.prog.info? 52).map (fun i => (i.zero, i.size, i.bytes)) = some (some z, 54, 120) ∧ z.cells.size = 54 := ⟨.agg (List.replicate 48 (Value.int .u8 0) ++ [Value.string ⟨#[]⟩, Value.int .i64 0, Value.bool false, Value.bool false, Value.slice none 0 0, Value.string ⟨#[]⟩]).toArray, by kernel_rfl, by decide⟩

set_option maxRecDepth 100000 in
set_option maxHeartbeats 4000000 in
theorem pickEver (br bm n : Nat) (D : DataW Value) (ents : List (Dfn × List Aut)) (g : ByteArray) (x : Aut) (bg ba : Nat) (w : World) (hc : w.cell? ⟨br, 2, none⟩ = some (.map (some bm))) (hD : Defs w bm n D ents) (h12 : ents.length ≤ 12)
    (h1 : w.cell? ⟨bg, 0, none⟩ = some (.string g)) (h2 : hasRow w ⟨ba, 0, none⟩ 16 = true) (h3 : rowAt w ⟨ba, 0, none⟩ 16 = bC x) :
    Calls Tryz.prog 67 #[.pointer (some ⟨br, 0, none⟩), .func (.func 68) #[] #[.pointer (some ⟨bg, 0, none⟩), .pointer (some ⟨ba, 0, none⟩)]] w (PickPost ents g x w) := by
  have HD := Lib.hid hD
  have H1 := Lib.hid h1; have H2 := Lib.hid h2; have H3 := Lib.hid h3
  have b1 : Hid (bg < w.heap.size) := World.block_lt_of_cell? w _ h1
  have b2 : Hid (ba < w.heap.size) := hasRow_lt h2 (by decide)
  have eg : ∀ args w, (callFunc 68 args).run Tryz.prog w = .ok (.enter 68 args) w := enters_of Tryz.func68 (by kernel_rfl) rfl
  obtain ⟨z0, hinfo, hzs⟩ := infoDfn
  obtain ⟨i0, hi, hz0, hz1, hz2⟩ := info_parts hinfo
  have HZ := Lib.hid hzs
  clear hD h1 h2 h3 hinfo hzs
  go_enter Tryz.func67, Tryz.ntmps67
  go_wp2_with (at_range; refine wpList_range_own _ rfl _ 125 rfl 23 52 kId Tryz.underlying125 dR bm n D rfl HD.out.own ?_; intro w0 hrg0 hg0 hs0)
  go_frame
  have HP := Lib.hid (pick_start HD.out g x)
  have HS := Lib.hid HD.out.size
  have G0 := Lib.hid (Gr.of_grownBy hg0)
  have HR0 := Lib.hid hrg0
  have HS0 := Lib.hid hs0
  clear hrg0 hg0 hs0
  go_loopw [5, 7, 15, 16, 17, 18, 19, 20, 21, 22, 23, 24, 25, 26] (fun v _ _ _ _ _ _ _ _ _ _ _ _ _ wr => ∃ left cnt acc, Hid (wr.ranges Tryz.prog 23 dR bm w.heap.size n D left cnt) ∧ Hid (wr.ownsRow (w.heap.size + 1) 52 54 v acc.length (acc.map d1C).flatten) ∧ Hid (PickRel ents g x left acc) ∧ acc.length + cnt ≤ ents.length ∧ Hid (acc = [] → v = .slice none 0 0) ∧ Hid (Gr w wr) ∧ Hid (w.heap.size + 1 ≤ wr.heap.size)) (fun _ _ _ _ _ _ _ _ _ _ _ _ _ _ wr => wr.rangeLeft bm w.heap.size)
  case atStart => exact ⟨_, _, [], HR0.out, ⟨rfl, .inl ⟨rfl, rfl⟩⟩, HP.out, by rw [HS.out]; simp, fun _ => rfl, G0.out, by show _ ≤ _; rw [HS0.out]; exact Nat.le_refl _⟩
  case round =>
    obtain ⟨left, cnt, acc, hrg, hown, hrel, hcnt, hnil, hG, hsz⟩ := hrel
    clear HP HS G0 HR0 HS0
    go_wp2_with (at_next; refine wpList_next_ranges _ rfl _ rfl 23 kId dR (fun v : Value => v) (fun d : Dfn => .agg (dfnC d).toArray) (fun key _ _ => ⟨key, rfl⟩) (fun _ _ h => dR_inv h) bm w.heap.size n D left cnt rfl hrg.out ?_ ?_)
    · intro hc0 hl0
      have HE := Lib.hid (pick_end hrel.out hl0)
      clear hc0 hl0
      by_cases ha : acc = []
      · have hv := hnil.out ha
        subst hv
        subst ha
        go_wp2_with fail
        refine (sortNil _ _).mono ?_
        rintro e w' ⟨rfl, rfl⟩
        go_wp2_with fail
        go_ret
        exact ⟨none, 0, 0, rfl, HE.out, hG.out⟩
      · obtain ⟨g', cap', rfl⟩ : ∃ g' cap', u5 = .slice (some ⟨g', 0, none⟩) acc.length cap' := by
          rcases hown.out.2 with ⟨_, h0⟩ | ⟨g', cap', _, hv, _⟩
          · exact absurd (List.length_eq_zero_iff.1 h0) ha
          · exact ⟨g', cap', hv⟩
        have HSo := Lib.hid (sortSome acc w wr (w.heap.size + 1) g' cap' (by omega) hG.out (by omega) hown.out)
        clear ha
        go_wp2_with fail
        refine HSo.out.mono ?_
        rintro e w' ⟨rfl, hgE⟩
        go_wp2_with fail
        go_ret
        exact ⟨_, _, _, rfl, HE.out, hgE⟩
    · intro key c k0 yd yp w1 cnt1 hkey hlx hv hat hrg1 hlt hg1 hs1 hen
      obtain ⟨en, hmem, rfl⟩ := hrel.out.1 k0 hlx
      obtain rfl : c = en.1 := by
        have h1 := hat (.held undef)
        have h2 : yd = .held (.agg (dfnC c).toArray) := dR_eq hv
        rw [HD.out.elem en hmem, h2] at h1
        injection h1 with h1
        exact dfnC_inj (List.toArray_inj (Value.agg.inj h1)).symm
      have HMEM := Lib.hid hmem
      have HLX := Lib.hid hlx
      have hne : Hid (u5.ownBlock = none ∨ u5.ownBlock ≠ some w.heap.size) := by
        show _ ∨ _
        cases hb : u5.ownBlock with
        | none => exact .inl rfl
        | some k => exact .inr (fun e => by have := (hown.out.lt k hb).1; injection e with e; omega)
      have G1 := Lib.hid (hG.out.grown hg1 (fun k hk => by injection hk with hk; omega))
      have O1 := Lib.hid (hown.out.kept hg1 hne.out)
      have R1 := Lib.hid hrg1
      have SZ1 : Hid (w.heap.size + 1 ≤ w1.heap.size) := by show _ ≤ _; rw [hs1]; exact hsz.out
      have hcl : Hid (cnt1 < cnt) := hlt
      have hml : wr.rangeLeft bm w.heap.size = cnt := hrg.out.left_eq
      have HML := Lib.hid hml
      clear hml hkey hlx hv hat hrg1 hlt hg1 hs1 hmem hown hrg hG hsz
      have GB := Lib.hid ((Gr.refl w1).alloc (.cells (dfnC en.1).toArray 52))
      have q1 := Lib.hid (((G1.out.trans GB.out).cell (p := ⟨bg, 0, none⟩) b1.out).trans H1.out)
      have q2 := Lib.hid (((G1.out.trans GB.out).hasRow (k := 0) (n := 16) b2.out).trans H2.out)
      have q3 := Lib.hid (((G1.out.trans GB.out).rowAt (k := 0) (n := 16) b2.out).trans H3.out)
      have HM := Lib.hid (HD.out.mods en HMEM.out)
      have hone1 := auts_one HM.out.1
      have HCl := Lib.hid (everClo en.1 en.2 g x bg ba _ q1.out q2.out q3.out (HM.out.1.gr (G1.out.trans GB.out)) (by have := HM.out.2; omega))
      go_wp2_with fail
      refine HCl.out.mono ?_
      rintro e w3 ⟨rfl, hg3⟩
      have HBx := Lib.hid ((hg3.1.block (b := w1.heap.size) (by simp)).trans (heap_alloc_new w1 (.cells (dfnC en.1).toArray 52)))
      have G3 := Lib.hid (GB.out.trans hg3.1)
      have R3 := Lib.hid (R1.out.kept G3.out.grownBy (by simp) (by simp))
      have O3 := Lib.hid (O1.out.kept G3.out.grownBy (by cases u5.ownBlock <;> simp))
      clear hg3 HCl q1 q2 q3
      cases ha : accB en.1 en.2 g x with
      | false =>
        have HA := Lib.hid ha
        clear ha
        go_wp2_with fail
        go_roundw
        case rel => exact ⟨_, _, acc, R3.out, O3.out, pick_step HD.out.apart hrel.out HMEM.out acc (by rw [HA.out]; simp) HLX.out, by have := hcl.out; omega, hnil.out, G1.out.trans G3.out, Nat.le_trans SZ1.out G3.out.size⟩
        case measure => rw [R3.out.left_eq, HML.out]; exact hcl.out
      | true =>
        have HA := Lib.hid ha
        clear ha
        have f1 := hasRow_block HBx.out 0 54 (by rw [dfnC_length]; decide)
        have f2 := (rowAt_block HBx.out 0 54 (by rw [dfnC_length]; decide)).trans (dfn_whole _)
        have HCd := Lib.hid (cloneD en.1 en.2 w3 (HM.out.1.gr (G1.out.trans G3.out)) (by have := HM.out.2; omega))
        go_wp2_with fail
        refine HCd.out.mono ?_
        rintro e w4 ⟨a', n', c', rfl, hau, hg4⟩
        have G4 := Lib.hid (G3.out.trans hg4)
        have R4 := Lib.hid ((R3.out.kept hg4.grownBy (by simp) (by simp)).alloc (.cells (dfnC (withMods en.1 (.slice a' n' c'))).toArray 52))
        have O4 := Lib.hid ((O3.out.kept hg4.grownBy (by cases u5.ownBlock <;> simp)).alloc (.cells (dfnC (withMods en.1 (.slice a' n' c'))).toArray 52))
        have hnews : Hid (∀ j u, (dfnC (withMods en.1 (.slice a' n' c')))[j]? = some u → (w4.alloc (.cells (dfnC (withMods en.1 (.slice a' n' c'))).toArray 52)).cell? ((⟨w4.heap.size, 0, none⟩ : Addr).add j) = some u) := by
          intro j u hu
          rw [Addr.add_lit, Nat.zero_add, World.cell?_alloc_new]; simpa using hu
        have hnl : Hid ((dfnC (withMods en.1 (.slice a' n' c'))).length = 1 * 54) := by show _ = _; rw [dfnC_length]
        have h1c : Hid (∀ u ∈ dfnC (withMods en.1 (.slice a' n' c')), u.oneCell' = true) := fun u hu => List.all_eq_true.1 (dfn_one en.1 a' n' c') u hu
        have hsz4 : Hid (w.heap.size + 1 ≤ w4.heap.size) := Nat.le_trans SZ1.out G4.out.size
        clear hau f1 f2 hg4
        go_wp2_with (at_builtin; refine wpList_append_own _ rfl _ _ 32 rfl (w.heap.size + 1) 52 i0 z0 54 120 Tryz.underlying32 hi hz0 hz1 hz2 HZ.out (by decide) u5 acc.length (acc.map d1C).flatten rfl O4.out ⟨w4.heap.size, 0, none⟩ 1 1 (dfnC (withMods en.1 (.slice a' n' c'))) rfl hnl.out hnews.out h1c.out (by unfold maxLen; omega) (by omega) (by have := hsz4.out; simp; omega) ?_; intro v' w5 hown5 hgrow5 hnil5)
        go_roundw
        case rel =>
          have hr : u5.ownBlock ≠ some w.heap.size := by
            intro hb; have := (O4.out.lt _ hb).1; omega
          have hbm : u5.ownBlock ≠ some bm := by
            intro hb
            rcases O4.out.2 with ⟨h0, _⟩ | ⟨g', cap', cur, h0, _, hh, _⟩
            · rw [h0] at hb; cases hb
            · rw [h0] at hb
              have hb' : g' = bm := by simpa [Value.ownBlock] using hb
              obtain ⟨es, clock, _, _, _, hm, _⟩ := R4.out
              rw [hb', hm] at hh; cases hh
          refine ⟨_, _, acc ++ [⟨withMods en.1 (.slice a' n' c'), rfl⟩], R4.out.kept hgrow5 (fun e => hbm e.symm) (fun e => hr e.symm), ?_, pick_step HD.out.apart hrel.out HMEM.out _ (by rw [HA.out]; simp) HLX.out, by have := hcl.out; simp; omega, fun h => by simp at h, ?_, ?_⟩
          · show World.ownsRow _ _ _ _ _ _ _
            rw [List.length_append, List.map_append, List.flatten_append]
            simpa [d1C] using hown5
          · exact ((G1.out.trans G4.out).alloc _).grown hgrow5 (fun k hk => by have := (O4.out.lt k hk).1; omega)
          · have h1 := hgrow5.size; have h2 := hsz4.out; simp at h1; show _ ≤ _; omega
        case measure =>
          have hr : u5.ownBlock ≠ some w.heap.size := by
            intro hb; have := (O4.out.lt _ hb).1; omega
          have hbm : u5.ownBlock ≠ some bm := by
            intro hb
            rcases O4.out.2 with ⟨h0, _⟩ | ⟨g', cap', cur, h0, _, hh, _⟩
            · rw [h0] at hb; cases hb
            · rw [h0] at hb
              have hb' : g' = bm := by simpa [Value.ownBlock] using hb
              obtain ⟨es, clock, _, _, _, hm, _⟩ := R4.out
              rw [hb', hm] at hh; cases hh
          rw [(R4.out.kept hgrow5 (fun e => hbm e.symm) (fun e => hr e.symm)).left_eq, HML.out]; exact hcl.out
end Go.Proofs.YtemhfcfebkjioaaGreatDoor

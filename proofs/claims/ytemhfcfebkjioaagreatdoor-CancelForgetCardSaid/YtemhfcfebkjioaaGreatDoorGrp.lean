/- A map of slices of cancellations, by target. -/
import Derived.Test.YtemhfcfebkjioaaGreatDoorSome
import Derived.Test.YtemhfcfebkjioaaGreatDoorAdd
import Derived.Maps.AppendAt
import Derived.WideKeyEntry
namespace Go.Proofs.YtemhfcfebkjioaaGreatDoor
open Go.RowKit
open Go.Maps (Keyed)

open Classical in
/-- How a slice in a map reads: as itself. -/
noncomputable def sR (v : Value) : Option (DataW Value × List MemPlace) := if ∃ a n c, v = Value.slice a n c then some (.held v, []) else none
theorem sR_mk (a : Option Addr) (n c : Nat) : sR (.slice a n c) = some (.held (.slice a n c), []) := if_pos ⟨a, n, c, rfl⟩
theorem sR_inv {v : Value} {y : DataW Value × List MemPlace} (h : sR v = some y) : (∃ a n c, v = .slice a n c) ∧ y.1 = .held v := by
  unfold sR at h; split at h
  · rename_i hh; exact ⟨hh, by rw [← Option.some.inj h]⟩
  · cases h
def nilS : DataW Value := .held (.slice none 0 0)
theorem zeroSl (w : World) : (zeroValue 40).run Tryz.prog w = .ok (.slice none 0 0) w := by kernel_rfl

/-- Block bm is a map from targets to slices that own the cancellations of each target, no two in one block. -/
structure Grps (w : World) (bm base n : Nat) (D : DataW Value) (G : Id → List Canc) : Prop where
  own : w.ownsMap Tryz.prog 23 sR bm n D
  rows : ∀ t, ∃ v, D.atKey (kl t) nilS = .held v ∧ w.ownsRow base 27 81 v (G t).length ((G t).map cancC).flatten
  apart : ∀ t t' v v' k, t ≠ t' → D.atKey (kl t) nilS = .held v → D.atKey (kl t') nilS = .held v' → v.ownBlock = some k → v'.ownBlock ≠ some k
theorem Grps.gr {w w' : World} {bm base n : Nat} {D : DataW Value} {G : Id → List Canc} (h : Grps w bm base n D G) (hg : Gr w w') : Grps w' bm base n D G :=
  ⟨h.own.kept hg.grownBy (by simp), fun t => by
    obtain ⟨v, h1, h2⟩ := h.rows t
    exact ⟨v, h1, h2.kept hg.grownBy (by cases v.ownBlock <;> simp)⟩, h.apart⟩
theorem Grps.made {w : World} {bm base : Nat} (h : w.heap[bm]? = some (.map #[] 0)) : Grps w bm base 0 (.map []) (fun _ => []) := by
  obtain ⟨es, clock, hb, F, _, _⟩ := World.ownsMap_made w Tryz.prog 23 sR
  rw [heap_alloc_new w _] at hb
  injection hb with hb
  injection hb with h1 h2
  subst h1; subst h2
  exact ⟨⟨#[], 0, h, F, Nat.le_refl _, rfl⟩, fun t => ⟨.slice none 0 0, rfl, ⟨rfl, .inl ⟨rfl, rfl⟩⟩⟩, fun t t' v v' k _ h1 _ hk => by
    have : v = .slice none 0 0 := (DataW.held.inj h1).symm
    rw [this] at hk; cases hk⟩
theorem own_ne_map {w : World} {bm base n m : Nat} {e : TypeId} {size : Nat} {D : DataW Value} {R : Value → Option (DataW Value × List MemPlace)} {k : TypeId} {v : Value} {xs : List Value} (h : w.ownsRow base e size v m xs) (hm : w.ownsMap Tryz.prog k R bm n D) : v.ownBlock ≠ some bm := by
  intro hb
  rcases h.2 with ⟨h0, _⟩ | ⟨g', cap', cur, h0, _, hh, _⟩
  · rw [h0] at hb; cases hb
  · rw [h0] at hb
    have hb' : g' = bm := by simpa [Value.ownBlock] using hb
    obtain ⟨es, clock, hm, _⟩ := hm
    rw [hb', hm] at hh; cases hh
theorem Grps.look {w : World} {bm base n : Nat} {D : DataW Value} {G : Id → List Canc} (h : Grps w bm base n D G) (t : Id) :
    ∃ a m c, D.atKey (kl t) nilS = .held (.slice a m c) ∧ (w.ownsRow base 27 81 (.slice a m c) (G t).length ((G t).map cancC).flatten) ∧ ∀ W, Gr w W → (Instr.lookup 99 (.map (some bm)) (.agg (bC t).toArray) false).run Tryz.prog W = .ok (.slice a m c) W := by
  have key : ∀ W, Gr w W → ∃ v, (∃ a m c, v = .slice a m c) ∧ D.atKey (kl t) nilS = .held v ∧ (Instr.lookup 99 (.map (some bm)) (.agg (bC t).toArray) false).run Tryz.prog W = .ok v W := by
    intro W hg
    obtain ⟨v, ps, hrun, hR⟩ := (h.gr hg).own.lookup kId Tryz.underlying99 (zeroSl W) (sR_mk none 0 0) (kl_spec t)
    obtain ⟨h1, h2⟩ := sR_inv hR
    exact ⟨v, h1, h2, hrun⟩
  obtain ⟨v, ⟨a, m, c, rfl⟩, hv, _⟩ := key w (Gr.refl w)
  obtain ⟨v2, hv2, ho⟩ := h.rows t
  rw [hv] at hv2
  have e2 := DataW.held.inj hv2
  subst e2
  refine ⟨a, m, c, hv, ho, fun W hg => ?_⟩
  obtain ⟨v', _, hv', hrun⟩ := key W hg
  rw [hv] at hv'
  rw [DataW.held.inj hv']; exact hrun
theorem ownsRow_of_block {w w' : World} {base : Nat} {e : TypeId} {size : Nat} {v : Value} {n : Nat} {xs : List Value} (h : w.ownsRow base e size v n xs) (hk : ∀ k, v.ownBlock = some k → w'.heap[k]? = w.heap[k]?) : w'.ownsRow base e size v n xs := by
  obtain ⟨h1, h2⟩ := h
  refine ⟨h1, h2.imp id ?_⟩
  rintro ⟨g, cap, cur, hv, hb, hh, r⟩
  exact ⟨g, cap, cur, hv, hb, (hk g (by rw [hv]; rfl)).trans hh, r⟩
theorem Grps.put {w w3 : World} {bm base n n' : Nat} {D : DataW Value} {G : Id → List Canc} (h : Grps w bm base n D G) (t : Id) (y : Canc) {v : Value} (hv : D.atKey (kl t) nilS = .held v) {a : Option Addr} {m c : Nat}
    (hm : w3.ownsMap Tryz.prog 23 sR bm n' (D.put (kl t) (.held (.slice a m c)))) (hk : ∀ k, k < w.heap.size → v.ownBlock ≠ some k → k ≠ bm → w3.heap[k]? = w.heap[k]?)
    (ho : w3.ownsRow base 27 81 (.slice a m c) (G t ++ [y]).length ((G t ++ [y]).map cancC).flatten) (hloc : (Value.slice a m c).ownBlock = v.ownBlock ∨ ∃ k, (Value.slice a m c).ownBlock = some k ∧ w.heap.size ≤ k) :
    Grps w3 bm base n' (D.put (kl t) (.held (.slice a m c))) (fun t' => if t' = t then G t ++ [y] else G t') := by
  have hM := h.own.isMap
  have hkey := kl_key t
  have lt_of : ∀ t' v', D.atKey (kl t') nilS = .held v' → ∀ k, v'.ownBlock = some k → k < w.heap.size ∧ k ≠ bm := by
    intro t' v' h1 k hk'
    obtain ⟨v2, h2, h3⟩ := h.rows t'
    rw [h1] at h2
    rw [DataW.held.inj h2] at hk'
    refine ⟨(h3.lt k hk').2, fun e => ?_⟩
    subst e
    exact own_ne_map h3 h.own hk'
  have same : (D.put (kl t) (.held (.slice a m c))).atKey (kl t) nilS = .held (.slice a m c) := Maps.atKey_put_same hM hkey _ _
  have other : ∀ t', t' ≠ t → (D.put (kl t) (.held (.slice a m c))).atKey (kl t') nilS = D.atKey (kl t') nilS := fun t' ht => Maps.atKey_put_other (fun e => ht (kl_inj e)) _ _
  refine ⟨hm, fun t' => ?_, fun t1 t2 v1 v2 k hne12 h1 h2 hk1 => ?_⟩
  · by_cases ht : t' = t
    · subst ht
      refine ⟨_, same, ?_⟩
      rw [if_pos rfl]
      exact ho
    · rw [other t' ht, if_neg ht]
      obtain ⟨v2, h1, h2⟩ := h.rows t'
      refine ⟨v2, h1, ownsRow_of_block h2 fun k hk2 => ?_⟩
      obtain ⟨l1, l2⟩ := lt_of t' v2 h1 k hk2
      exact hk k l1 (h.apart t' t v2 v k ht h1 hv hk2) l2
  · by_cases e1 : t1 = t
    · subst e1
      rw [same] at h1
      rw [other t2 (Ne.symm hne12)] at h2
      have ev := (DataW.held.inj h1).symm
      rw [ev] at hk1
      rcases hloc with hl | ⟨k', hl, hk'⟩
      · rw [hl] at hk1; exact h.apart t1 t2 v v2 k hne12 hv h2 hk1
      · rw [hl] at hk1
        injection hk1 with hk1
        intro e
        have := (lt_of t2 v2 h2 k e).1
        omega
    · rw [other t1 e1] at h1
      by_cases e2 : t2 = t
      · subst e2
        rw [same] at h2
        have ev := (DataW.held.inj h2).symm
        rw [ev]
        rcases hloc with hl | ⟨k', hl, hk'⟩
        · rw [hl]; exact h.apart t1 t2 v1 v k hne12 h1 hv hk1
        · rw [hl]
          intro e
          injection e with e
          have := (lt_of t1 v1 h1 k hk1).1
          omega
      · rw [other t2 e2] at h2
        exact h.apart t1 t2 v1 v2 k hne12 h1 h2 hk1
theorem ok_val {α : Type} {a b : α} {w w' : World} (h : Result.ok a w = .ok b w') : a = b := by cases h; rfl
theorem ok_world {α : Type} {a b : α} {w w' : World} (h : Result.ok a w = .ok b w') : w = w' := by cases h; rfl
theorem kIdLaw : WideMaps.KeyLaw Tryz.prog 23 := deep_law_laid laidOut (m := 2) (by omega) (of_decide_eq_true (by kernel_rfl)) (by kernel_rfl) (by kernel_rfl)
/-- 'm[k] = append(m[k], y)': the entry, and the way back. -/
theorem Grps.entry {w : World} {bm base n : Nat} {D : DataW Value} {G : Id → List Canc} (h : Grps w bm base n D G) (hn : n ≤ 1000) (t : Id) :
    ∃ a m c st w1, (Instr.mapEntry 99 (.map (some bm)) (.agg (bC t).toArray)).run Tryz.prog w = .ok (.tuple #[.slice a m c, .int .i64 (st : Nat)]) w1 ∧ w.mapTurned w1 bm ∧
      w1.ownsRow base 27 81 (.slice a m c) (G t).length ((G t).map cancC).flatten ∧
      ∀ (y : Canc) (w2 : World) (a' : Option Addr) (m' c' : Nat), w1.grownBy w2 (Value.slice a m c).ownBlock → w2.ownsRow base 27 81 (.slice a' m' c') (G t ++ [y]).length ((G t ++ [y]).map cancC).flatten →
        ((Value.slice a' m' c').ownBlock = (Value.slice a m c).ownBlock ∨ (Value.slice a' m' c').ownBlock = some w1.heap.size) →
        ∃ w3, (Instr.entryStore 99 (.map (some bm)) (.int .i64 (st : Nat)) (.slice a' m' c')).run Tryz.prog w2 = .ok () w3 ∧ (∃ D', Grps w3 bm base (n + 1) D' (fun t' => if t' = t then G t ++ [y] else G t')) ∧ w2.mapTurned w3 bm := by
  obtain ⟨a, m, c, hat, ho, hlook⟩ := h.look t
  have hlk := hlook w (Gr.refl w)
  obtain ⟨es, clock, hb, F, hs, hD⟩ := id h.own
  obtain ⟨v0, st, es1, clock1, hrun, hv0, hback⟩ := WideElems.entry_then_store kIdLaw Tryz.underlying99 zeroSl hb F (kl_spec t)
  have hv : v0 = .slice a m c := by
    rcases Maps.fit_look false kId Tryz.underlying99 (zeroSl w) hb F (kl_spec t) with ⟨hr, hno, _⟩ | ⟨e0, y, hmem, hke, hr, _, _, _⟩
    · rw [hlk] at hr
      rcases hv0 with ⟨e1, h1, h2, _⟩ | ⟨_, h2⟩
      · exact absurd h2 (hno e1 h1)
      · rw [h2]; exact (ok_val hr).symm
    · rw [hlk] at hr
      rcases hv0 with ⟨e1, h1, h2, h3⟩ | ⟨hno, _⟩
      · have : e1 = e0 := entry_eq_of_key (List.pairwise_map.1 F.stamped.2.2) h1 hmem (h2.trans hke.symm)
        rw [h3, this]; exact (ok_val hr).symm
      · exact absurd hke (hno e0 hmem)
  subst hv
  have hbn : (Value.slice a m c).ownBlock ≠ some bm := own_ne_map ho h.own
  refine ⟨a, m, c, st, _, hrun, ⟨es, clock, es1, clock1, hb, rfl⟩, ownsRow_of_block ho (fun k hk => ChangeMaps.heap_setBlock_other hb _ (fun e => hbn (by rw [← e]; exact hk))), fun y w2 a' m' c' hg ho2 hloc => ?_⟩
  have h2b : w2.heap[bm]? = some (.map es1 clock1) := (hg.block bm (by simp [ChangeMaps.setBlock]; exact (Array.getElem?_eq_some_iff.1 hb).1) (fun e => hbn e.symm)).trans (ChangeMaps.heap_setBlock_same hb _)
  obtain ⟨es', clock', hr3, hr4⟩ := hback w2 (.slice a' m' c') h2b
  obtain ⟨w', hr5, hown5, _⟩ := h.own.update kId Tryz.underlying99 (by unfold maxLen; omega) (kl_spec t) (sR_mk a' m' c')
  have ew : w' = ChangeMaps.setBlock w bm (.map es' clock') := (ok_world (hr4.symm.trans hr5)).symm
  refine ⟨_, hr3, ⟨_, h.put (a := a') (m := m') (c := c') t y hat ?_ ?_ ?_ ?_⟩, ⟨es1, clock1, es', clock', h2b, rfl⟩⟩
  · rw [ew] at hown5
    obtain ⟨es2, clock2, hb2, r⟩ := hown5
    rw [ChangeMaps.heap_setBlock_same hb] at hb2
    exact ⟨es2, clock2, (ChangeMaps.heap_setBlock_same h2b _).trans hb2, r⟩
  · intro k hk1 hk2 hk3
    rw [ChangeMaps.heap_setBlock_other h2b _ hk3, hg.block k (by simpa [ChangeMaps.setBlock] using hk1) (fun e => hk2 e.symm), ChangeMaps.heap_setBlock_other hb _ hk3]
  · exact ownsRow_of_block ho2 (fun k hk => ChangeMaps.heap_setBlock_other h2b _ (fun e => by
      subst e
      rcases hloc with hl | hl
      · rw [hl] at hk; exact hbn hk
      · rw [hl] at hk
        injection hk with hk
        have := (Array.getElem?_eq_some_iff.1 hb).1
        simp [ChangeMaps.setBlock] at hk
        omega))
  · rcases hloc with hl | hl
    · exact .inl hl
    · exact .inr ⟨_, hl, by simp [ChangeMaps.setBlock]⟩
end Go.Proofs.YtemhfcfebkjioaaGreatDoor

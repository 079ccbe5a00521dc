/- The cancellations that a map holds by their identities; which of them are accepted, kept and forgotten. -/
import Derived.Test.YtemhfcfebkjioaaGreatDoorGrp
namespace Go.Proofs.YtemhfcfebkjioaaGreatDoor
section
open Go.RowKit
open Go.Maps (Keyed)

theorem cancC_inj {a b : Canc} (h : cancC a = cancC b) : a = b := by
  have e1 := bC_inj ((canc_id a).symm.trans (h ▸ canc_id b))
  have e2 := bC_inj ((canc_author a).symm.trans (h ▸ canc_author b))
  have e3 := (canc_date a).symm.trans ((show (cancC a)[48]? = (cancC b)[48]? by rw [h]).trans (canc_date b))
  have e4 := bC_inj ((canc_target a).symm.trans (h ▸ canc_target b))
  cases a; cases b
  simp at e1 e2 e3 e4
  simp [*]
open Classical in
/-- How an element reads: as itself, where it is a cancellation. -/
noncomputable def cR (v : Value) : Option (DataW Value × List MemPlace) := if ∃ y : Canc, v = .agg (cancC y).toArray then some (.held v, []) else none
theorem cR_mk (y : Canc) : cR (.agg (cancC y).toArray) = some (.held (.agg (cancC y).toArray), []) := if_pos ⟨y, rfl⟩
theorem cR_inv {v : Value} {y : DataW Value × List MemPlace} (h : cR v = some y) : ∃ d : Canc, v = .agg (cancC d).toArray := by
  unfold cR at h; split at h
  · assumption
  · cases h
theorem cR_eq {d : Canc} {y : DataW Value × List MemPlace} (h : cR (.agg (cancC d).toArray) = some y) : y.1 = .held (.agg (cancC d).toArray) := by
  rw [cR_mk] at h; rw [← Option.some.inj h]

/-- The cancellations that a map holds. -/
structure Tmb (w : World) (bm n : Nat) (D : DataW Value) (l : List Canc) : Prop where
  own : w.ownsMap Tryz.prog 23 cR bm n D
  has : ∀ k, Maps.has D k = true ↔ ∃ y ∈ l, k = kl y.id
  elem : ∀ y ∈ l, ∀ z, D.atKey (kl y.id) z = .held (.agg (cancC y).toArray)
  size : Maps.size D = l.length
  apart : l.Pairwise fun y y' => y.id ≠ y'.id
theorem Tmb.gr {w w' : World} {bm n : Nat} {D : DataW Value} {l : List Canc} (h : Tmb w bm n D l) (hg : Gr w w') : Tmb w' bm n D l :=
  ⟨h.own.kept hg.grownBy (by simp), h.has, h.elem, h.size, h.apart⟩
theorem Tmb.kept {w w' : World} {bm n : Nat} {D : DataW Value} {l : List Canc} (h : Tmb w bm n D l) {row : Option Nat} (hg : w.grownBy w' row) (hr : some bm ≠ row) : Tmb w' bm n D l :=
  ⟨h.own.kept hg hr, h.has, h.elem, h.size, h.apart⟩
theorem apart_eq {l : List Canc} (h : l.Pairwise fun y y' => y.id ≠ y'.id) {y y' : Canc} (hy : y ∈ l) (hy' : y' ∈ l) (e : y.id = y'.id) : y = y' := by
  induction l with
  | nil => cases hy
  | cons a l ih =>
    obtain ⟨h1, h2⟩ := List.pairwise_cons.1 h
    rcases List.mem_cons.1 hy with e1 | m1 <;> rcases List.mem_cons.1 hy' with e2 | m2
    · rw [e1, e2]
    · subst e1; exact absurd e (h1 _ m2)
    · subst e2; exact absurd e.symm (h1 _ m1)
    · exact ih h2 m1 m2
theorem Tmb.made {w : World} {bm : Nat} (h : w.heap[bm]? = some (.map #[] 0)) : Tmb w bm 0 (.map []) [] := by
  obtain ⟨es, clock, hb, F, _, _⟩ := World.ownsMap_made w Tryz.prog 23 cR
  rw [heap_alloc_new w _] at hb
  injection hb with hb
  injection hb with h1 h2
  subst h1; subst h2
  exact ⟨⟨#[], 0, h, F, Nat.le_refl _, rfl⟩, fun k => by simp [Maps.has], by simp, rfl, List.Pairwise.nil⟩
def hasId (l : List Canc) (x : Id) : Bool := l.any fun y => y.id == x
theorem Tmb.hasI {w : World} {bm n : Nat} {D : DataW Value} {l : List Canc} (h : Tmb w bm n D l) (x : Id) : Maps.has D (kl x) = hasId l x := by
  rw [Bool.eq_iff_iff, h.has]
  unfold hasId
  rw [List.any_eq_true]
  constructor
  · rintro ⟨e, he, hk⟩; exact ⟨e, he, by simp [kl_inj hk]⟩
  · rintro ⟨e, he, hx⟩
    exact ⟨e, he, by rw [← (by simpa using hx : e.id = x)]⟩
def canc0 : Canc := ⟨zeroId, Vector.replicate 16 0, 0, zeroId⟩
theorem zeroCancV (w : World) : (zeroValue 27).run Tryz.prog w = .ok (.agg (cancC canc0).toArray) w := by kernel_rfl
theorem Tmb.look {w : World} {bm n : Nat} {D : DataW Value} {l : List Canc} (h : Tmb w bm n D l) (x : Id) :
    ∃ dx : Canc, ∀ W, Gr w W → (Instr.lookup 103 (.map (some bm)) (.agg (bC x).toArray) true).run Tryz.prog W = .ok (.tuple #[.agg (cancC dx).toArray, .bool (hasId l x)]) W := by
  have key : ∀ W, Gr w W → ∃ dx : Canc, D.atKey (kl x) (.held (.agg (cancC canc0).toArray)) = .held (.agg (cancC dx).toArray) ∧ (Instr.lookup 103 (.map (some bm)) (.agg (bC x).toArray) true).run Tryz.prog W = .ok (.tuple #[.agg (cancC dx).toArray, .bool (hasId l x)]) W := by
    intro W hg
    obtain ⟨v, ps, hrun, hR⟩ := (h.gr hg).own.look_ok kId Tryz.underlying103 (zeroCancV W) (cR_mk canc0) (kl_spec x)
    obtain ⟨dx, rfl⟩ := cR_inv hR
    rw [h.hasI] at hrun
    exact ⟨dx, cR_eq hR, hrun⟩
  obtain ⟨dx, hd, _⟩ := key w (Gr.refl w)
  refine ⟨dx, fun W hg => ?_⟩
  obtain ⟨dx', hd', hrun⟩ := key W hg
  rw [hd] at hd'
  rw [cancC_inj (List.toArray_inj (Value.agg.inj (DataW.held.inj hd')))]; exact hrun
theorem Tmb.store {w : World} {bm n : Nat} {D : DataW Value} {l : List Canc} (h : Tmb w bm n D l) (hn : n ≤ 1000) (y : Canc) (hh : hasId l y.id = false) :
    ∃ w5, (Instr.mapUpdate 103 (.map (some bm)) (.agg (bC y.id).toArray) (.agg (cancC y).toArray)).run Tryz.prog w = .ok () w5 ∧ (∃ D', Tmb w5 bm (n + 1) D' (l ++ [y])) ∧ w.mapTurned w5 bm := by
  obtain ⟨w5, hrun, hown, hturn⟩ := h.own.store kId Tryz.underlying103 (by unfold maxLen; omega) (kl_spec y.id) (cR_mk y)
  have hM := h.own.isMap
  have hk := kl_key y.id
  rw [← h.hasI] at hh
  have hne : ∀ e ∈ l, e.id ≠ y.id := fun e he q => by
    have := (h.has _).2 ⟨e, he, rfl⟩
    rw [q, hh] at this; cases this
  refine ⟨w5, hrun, ⟨D.put (kl y.id) (.held (.agg (cancC y).toArray)), ⟨hown, ?_, ?_, ?_, ?_⟩⟩, hturn⟩
  · intro k
    by_cases e : k = kl y.id
    · subst e
      rw [Maps.has_put_same hM hk]
      exact ⟨fun _ => ⟨y, by simp, rfl⟩, fun _ => rfl⟩
    · rw [Maps.has_put_other e, h.has]
      constructor
      · rintro ⟨x, hx, hk'⟩; exact ⟨x, by simp [hx], hk'⟩
      · rintro ⟨x, hx, hk'⟩
        rcases List.mem_append.1 hx with hx | hx
        · exact ⟨x, hx, hk'⟩
        · simp at hx; rw [hx] at hk'; exact absurd hk' e
  · intro e he z
    rcases List.mem_append.1 he with he | he
    · rw [Maps.atKey_put_other (fun q => hne e he (kl_inj q))]; exact h.elem e he z
    · simp at he; subst he; exact Maps.atKey_put_same hM hk _ z
  · rw [Maps.size_put (h.own.tidy kId), hh, List.length_append, h.size]; rfl
  · rw [List.pairwise_append]
    exact ⟨h.apart, List.pairwise_singleton _ _, fun a ha b hb => by simp at hb; subst hb; exact hne a ha⟩
/-- delete: whatever has that identity is gone. -/
theorem Tmb.drop {w : World} {bm n : Nat} {D : DataW Value} {l : List Canc} (h : Tmb w bm n D l) (x : Id) (ty : TypeId) :
    ∃ w5, (Builtin.delete_ #[103, 23] ty #[.map (some bm), .agg (bC x).toArray]).run Tryz.prog w = .ok (.tuple #[]) w5 ∧ (∃ D', Tmb w5 bm n D' (l.filter fun y => !(y.id == x))) ∧ w.mapTurned w5 bm := by
  obtain ⟨w5, hrun, hown, hturn⟩ := h.own.drop kId Tryz.underlying103 (kl_spec x) ty
  refine ⟨w5, hrun, ⟨D.del (kl x), ⟨hown, ?_, ?_, ?_, h.apart.filter _⟩⟩, hturn⟩
  · intro k
    by_cases e : k = kl x
    · subst e
      rw [Maps.has_del_same]
      constructor
      · intro q; cases q
      · rintro ⟨y, hy, hk⟩
        have := kl_inj hk
        subst this
        simp at hy
    · rw [Maps.has_del_other e, h.has]
      constructor
      · rintro ⟨y, hy, hk⟩
        exact ⟨y, List.mem_filter.2 ⟨hy, by simp; intro q; rw [← q] at e; exact e hk⟩, hk⟩
      · rintro ⟨y, hy, hk⟩; exact ⟨y, (List.mem_filter.1 hy).1, hk⟩
  · intro y hy z
    obtain ⟨h1, h2⟩ := List.mem_filter.1 hy
    rw [Maps.atKey_del_other (fun q => by have := kl_inj q; rw [this] at h2; simp at h2)]
    exact h.elem y h1 z
  · have h1 := Maps.size_del (k := kl x) (h.own.tidy kId)
    rw [h.size, h.hasI] at h1
    have key : ∀ l : List Canc, (l.Pairwise fun y y' => y.id ≠ y'.id) → (l.filter fun y => !(y.id == x)).length + (if hasId l x = true then 1 else 0) = l.length := by
      intro l
      induction l with
      | nil => intro _; rfl
      | cons a l ih =>
        intro hp
        obtain ⟨p1, p2⟩ := List.pairwise_cons.1 hp
        have ih := ih p2
        by_cases e : a.id = x
        · subst e
          have hno : hasId l a.id = false := by
            unfold hasId; rw [List.any_eq_false]; intro y hy; simp; exact fun q => p1 y hy q.symm
          rw [hno] at ih
          have hyes : hasId (a :: l) a.id = true := by unfold hasId; simp
          rw [hyes, List.filter_cons]
          simp at ih ⊢
          exact ih
        · have h3 : hasId (a :: l) x = hasId l x := by unfold hasId; rw [List.any_cons]; simp [e]
          rw [h3, List.filter_cons, if_pos (by simp [e]), List.length_cons, List.length_cons]
          omega
    have := key l h.apart
    omega
end
section
open Go.RowKit

def dateBad (y : Canc) : Bool := decide (y.date < 0) || decide (105190559 < y.date)
def addErr (l : List Canc) (y : Canc) : Int := if dateBad y = true then 13 else if hasId l y.id = true then 7 else 0
def addL (l : List Canc) (y : Canc) : List Canc := if addErr l y = 0 then l ++ [y] else l
def accL (l : List Canc) : List Canc := l.foldl addL []
theorem accL_succ (l : List Canc) (k : Nat) (h : k < l.length) : accL (l.take (k + 1)) = addL (accL (l.take k)) l[k] := by
  unfold accL; rw [List.take_succ_eq_append_getElem h, List.foldl_append]; rfl
theorem addL_len (l : List Canc) (y : Canc) : (addL l y).length ≤ l.length + 1 := by unfold addL; split <;> simp
theorem accL_len (l : List Canc) : ∀ k, (accL (l.take k)).length ≤ k
  | 0 => by simp [accL]
  | k + 1 => by
    by_cases h : k < l.length
    · rw [accL_succ l k h]; have := addL_len (accL (l.take k)) l[k]; have := accL_len l k; omega
    · have e : l.take (k + 1) = l.take k := by rw [List.take_of_length_le (by omega), List.take_of_length_le (by omega)]
      rw [e]; have := accL_len l k; omega
theorem addL_mem {l : List Canc} {y z : Canc} (h : z ∈ addL l y) : z ∈ l ∨ (z = y ∧ dateBad y = false) := by
  unfold addL at h
  split at h
  · rename_i he
    rcases List.mem_append.1 h with h | h
    · exact .inl h
    · refine .inr ⟨by simpa using h, ?_⟩
      unfold addErr at he
      split at he
      · cases he
      · simpa using ‹¬ dateBad y = true›
  · exact .inl h
theorem foldL_dates : ∀ (l a : List Canc), (∀ y ∈ a, dateBad y = false) → ∀ y ∈ l.foldl addL a, dateBad y = false
  | [], _, h => h
  | z :: l, a, h => foldL_dates l (addL a z) fun y hy => by
    rcases addL_mem hy with hy | ⟨rfl, hy⟩
    · exact h y hy
    · exact hy
theorem accL_dates (l : List Canc) : ∀ y ∈ accL l, dateBad y = false := foldL_dates l [] (by simp)
theorem accL_app (l m : List Canc) : accL (l ++ m) = m.foldl addL (accL l) := by unfold accL; rw [List.foldl_append]

/-- Too old, and its target is not there. -/
def oldB (now : Int) (here : Id → Bool) (y : Canc) : Bool := decide (y.date < now - 20160) && !here y.target
def leftL (now : Int) (here : Id → Bool) (l : List Canc) : List Canc := l.filter fun y => !oldB now here y
theorem byR_left (now : Int) (here : Id → Bool) (x : Rw) (gs : List ByteArray) (ents : List (Dfn × List Aut)) (l : List Canc) (h : ¬ (x.date < now - 20160 ∧ here x.id = false)) : byR x gs ents (leftL now here l) = byR x gs ents l := by
  have e : filt x gs ents (leftL now here l) = filt x gs ents l := by
    unfold filt leftL
    rw [List.filter_filter]
    apply List.filter_congr
    intro y _
    cases hc : countsB y x gs ents with
    | false => rfl
    | true =>
      unfold countsB at hc
      simp only [Bool.and_eq_true, beq_iff_eq, decide_eq_true_eq] at hc
      obtain ⟨⟨h1, h2⟩, _⟩ := hc
      have : oldB now here y = false := by
        unfold oldB
        rw [h1]
        cases hh : here x.id with
        | true => simp
        | false =>
          have : ¬ x.date < now - 20160 := fun q => h ⟨q, hh⟩
          simp; omega
      rw [this]; rfl
  unfold byR; rw [e]
theorem leftL_none (now : Int) (here : Id → Bool) (l : List Canc) (hd : ∀ y ∈ l, dateBad y = false) (h : now ≤ 20160) : (∀ y ∈ l, oldB now here y = false) ∧ leftL now here l = l := by
  have h1 : ∀ y ∈ l, oldB now here y = false := fun y hy => by
    have := hd y hy
    unfold dateBad at this
    simp at this
    unfold oldB; simp; omega
  refine ⟨h1, List.filter_eq_self.2 fun y hy => by rw [h1 y hy]; rfl⟩
/-- In strictly increasing order of identities. -/
def IncC (l : List Canc) : Prop := l.Pairwise fun a b => nm a.id < nm b.id
theorem inc_of_perm {s l : List Canc} (hp : s.Perm l) (ha : l.Pairwise fun y y' => y.id ≠ y'.id) (hs : s.Pairwise fun a b => nm a.id ≤ nm b.id) : IncC s := by
  have hs2 : s.Pairwise fun y y' => y.id ≠ y'.id := (hp.pairwise_iff (fun {_ _} h => Ne.symm h)).2 ha
  unfold IncC
  exact List.Pairwise.imp₂ (fun a b h1 h2 => by have : nm a.id ≠ nm b.id := fun e => h2 (nm_inj e); omega) hs hs2
end
end Go.Proofs.YtemhfcfebkjioaaGreatDoor

/- slices.SortFunc at identities and at cancellations, at whatever length. -/
import Derived.Test.YtemhfcfebkjioaaGreatDoorInc
import Derived.Test.YtemhfcfebkjioaaGreatDoorSort
import Derived.Shelf.SlSortCmp.NoneTotal
namespace Go.Proofs.YtemhfcfebkjioaaGreatDoor
open Go.RowKit

theorem flat_at {size : Nat} {rows : List (List Value)} (hr : ∀ r ∈ rows, r.length = size) (hs : 0 < size) (t : Nat) (hq : t / size < rows.length) : rows.flatten[t]? = rows[t / size][t % size]? := by
  have hm : t % size < size := Nat.mod_lt _ hs
  have hget := flat_get hr (t / size) hq
  have := congrArg (fun l => l[t % size]?) hget
  simp only [rowOf, List.getElem?_take, if_pos hm, List.getElem?_drop, Nat.div_add_mod' t size] at this
  exact this
section
variable {α : Type} [Inhabited α] (enc : α → List Value) (k : Nat) (hk : ∀ x, (enc x).length = k) (hk0 : 0 < k)
include hk hk0
theorem flatK_list (d : List α) : (Sort.flatK enc k d.toArray).toList = (d.map enc).flatten := by
  have hrows : ∀ r ∈ d.map enc, r.length = k := fun r hr => by obtain ⟨x, _, rfl⟩ := List.mem_map.1 hr; exact hk x
  apply List.ext_getElem?
  intro t
  by_cases ht : t < d.length * k
  · have hq : t / k < d.length := (Nat.div_lt_iff_lt_mul hk0).2 ht
    have hm : t % k < k := Nat.mod_lt _ hk0
    have hqa : t / k < d.toArray.size := by simpa using hq
    have hts : t < (Sort.flatK enc k d.toArray).size := by rw [Sort.size_flatK]; simpa using ht
    rw [flat_at hrows hk0 t (by simpa using hq), List.getElem_map, Array.getElem?_toList, Array.getElem?_eq_getElem hts, ← getElem!_pos _ t hts, Sort.get_flatK enc k _ t (by simpa using ht), getElem!_pos d.toArray (t / k) hqa, List.getElem?_eq_getElem (by rw [hk]; exact hm), getElem!_pos (enc d.toArray[t / k]) (t % k) (by rw [hk]; exact hm)]
    rfl
  · rw [List.getElem?_eq_none (by rw [Array.length_toList, Sort.size_flatK]; simpa using ht), List.getElem?_eq_none (by rw [flat_len hrows, List.length_map]; omega)]
omit hk hk0 in
theorem heap_sortWorldK (w : World) (g off n : Nat) (d : Array α) (os : Array Obj) {cs : Array Value} {t : TypeId} {fr : Nat × Nat} (h : w.heap[g]? = some (.cells cs t fr)) :
    (sortWorldK enc k w g off n d os).heap[g]? = some (.cells (Sort.putCells id off (Sort.flatK enc k d) cs) t fr) := by
  have hlt := (Array.getElem?_eq_some_iff.1 h).1
  simp only [sortWorldK, Sort.grow, Sort.putRowK, Sort.putRow, Sort.mapBlock, Sort.ahead]
  rw [Array.getElem?_append, if_pos (by simpa using hlt), Array.getElem?_modify, if_pos rfl, h]; rfl
omit hk hk0 [Inhabited α] in
theorem putCells_take (F cs : Array Value) (h : F.size ≤ cs.size) : (Sort.putCells id 0 F cs).toList.take F.size = F.toList := by
  apply List.ext_getElem?
  intro t
  rw [List.getElem?_take]
  by_cases ht : t < F.size
  · rw [if_pos ht, Array.getElem?_toList, Array.getElem?_toList, Sort.putCells, Array.getElem?_mapIdx, Array.getElem?_eq_getElem (by omega), Option.map_some, if_pos (by omega), Array.getElem?_eq_getElem ht, Nat.sub_zero, getElem!_pos F t ht]; rfl
  · rw [if_neg ht, List.getElem?_eq_none (by simp; omega)]
theorem owns_sortWorldK {w : World} {base : Nat} {e : TypeId} {g c : Nat} {d d' : List α} (hl : d'.length = d.length) (h : w.ownsRow base e k (.slice (some ⟨g, 0, none⟩) d.length c) d.length (d.map enc).flatten) (n : Nat) (os : Array Obj) :
    (sortWorldK enc k w g 0 n d'.toArray os).ownsRow base e k (.slice (some ⟨g, 0, none⟩) d.length c) d.length (d'.map enc).flatten := by
  obtain ⟨hlen, h2⟩ := h
  have hrows : ∀ r ∈ d'.map enc, r.length = k := fun r hr => by obtain ⟨x, _, rfl⟩ := List.mem_map.1 hr; exact hk x
  refine ⟨by rw [flat_len hrows, List.length_map, hl], .inr ?_⟩
  rcases h2 with ⟨h0, _⟩ | ⟨g', cap, cur, hv, hbg, hh, hc, hm, hs, ht⟩
  · cases h0
  · injection hv with e1 e2 e3
    injection e1 with e1
    injection e1 with e1 _
    subst e1; subst e3
    have hF : (Sort.flatK enc k d'.toArray).size = d.length * k := by rw [Sort.size_flatK]; simp [hl]
    refine ⟨g, c, _, rfl, hbg, heap_sortWorldK enc k w g 0 n d'.toArray os hh, hc, hm, by simp [Sort.putCells, hs], ?_⟩
    rw [← hF, putCells_take _ _ (by rw [hF, hs]; exact Nat.mul_le_mul_right _ hc), flatK_list enc k hk hk0]
end
theorem perm_of_permIn {α : Type} [Inhabited α] {d d' : Array α} (h : Sort.PermIn 0 d.size d d') : d'.toList.Perm d.toList := by
  obtain ⟨hsz, _, hp⟩ := h
  have e1 : d'.extract 0 d.size = d' := by rw [← hsz]; exact Array.extract_size
  rwa [e1, Array.extract_size] at hp
theorem pairwise_of_sortedIn {α : Type} [Inhabited α] {lt : α → α → Bool} {d : Array α} (h : Sort.SortedIn lt 0 d.size d) : d.toList.Pairwise fun a b => lt b a = false := by
  rw [List.pairwise_iff_getElem]
  intro i j hi hj hij
  have hi' : i < d.size := by simpa using hi
  have hj' : j < d.size := by simpa using hj
  have := h i j (Nat.zero_le _) hij hj'
  rw [getElem!_pos d i hi', getElem!_pos d j hj'] at this
  simpa using this

theorem lt_nm (x y : Id) : ltOf cmpB x y = decide (nm x < nm y) := by
  unfold ltOf; rw [cmpB_num]; unfold cmpI; rw [decide_eq_decide]
  repeat' split
  all_goals omega
theorem swoI : Sort.SWO (ltOf (cmpB (n := 32))) where
  irrefl x := by rw [lt_nm]; simp
  trans x y z h1 h2 := by rw [lt_nm] at *; simp at *; omega
  ntrans x y z h1 h2 := by rw [lt_nm] at *; simp at *; omega
def idC (x : Id) : List Value := bC x
theorem idC_len (x : Id) : (idC x).length = 32 := bC_length x
theorem idLays (blk off size : Nat) (w : World) : CmpLays Tryz.prog 43 #[] idC 32 cmpB blk off size w :=
  fun _ _ _ _ x y => (compareIds x y _).mono fun _ _ ⟨he, hl⟩ => ⟨he, hl.grow⟩
def SortIPost (acc : List Id) (w0 : World) (base g c : Nat) (e : Ending) (w' : World) : Prop :=
  e = .returned (.tuple #[]) ∧ Gr w0 w' ∧ ∃ s : List Id, s.Perm acc ∧ (s.Pairwise fun a b => nm a ≤ nm b) ∧ w'.ownsRow base 23 32 (.slice (some ⟨g, 0, none⟩) acc.length c) acc.length (s.map idC).flatten
theorem sortIds (acc : List Id) (w0 w : World) (base g c : Nat) (hb : w0.heap.size ≤ base) (hg : Gr w0 w) (hl : acc.length < 4611686018427387904) (h : w.ownsRow base 23 32 (.slice (some ⟨g, 0, none⟩) acc.length c) acc.length (acc.map idC).flatten) :
    Calls Tryz.prog 45 #[.slice (some ⟨g, 0, none⟩) acc.length c, .func (.func 43) #[] #[]] w (SortIPost acc w0 base g c) := by
  have eg : ∀ args w, (callFunc 43 args).run Tryz.prog w = .ok (.enter 43 args) w := enters_of Tryz.func43 (by kernel_rfl) rfl
  have hlt := h.lt g rfl
  have hcon := AnyQ.slices_SortFunc Tryz.sortId 32 Tryz.isAgg23 Tryz.sizeOf23 idC idC_len (fun x v hv => List.all_eq_true.1 (oneB_bC x) v hv) cmpB swoI 43 #[] g 0 c acc.toArray w eg (idLays g 0 _ w)
    (holdsK_of_owns idC 32 idC_len (by decide) acc h) hlt.2 (by simpa using hl)
  rw [List.size_toArray] at hcon
  change Calls Tryz.prog 45 _ _ _ at hcon
  refine hcon.mono ?_
  rintro e w' ⟨he, d', n, os, hp, hs, rfl⟩
  have hsz : d'.size = acc.length := by have := hp.1; simpa using this
  have hpl : d'.toList.Perm acc := by
    have hp' : Sort.PermIn 0 acc.toArray.size acc.toArray d' := by simpa using hp
    simpa using perm_of_permIn hp'
  refine ⟨he, gr_sortWorldK idC 32 hg (by omega) 0 n _ os, d'.toList, hpl, ?_, ?_⟩
  · rw [← hsz] at hs
    exact (pairwise_of_sortedIn hs).imp fun {a b} hab => by rw [lt_nm] at hab; simp at hab; omega
  · have := owns_sortWorldK idC 32 idC_len (by decide) (d' := d'.toList) (by rw [Array.length_toList, hsz]) h n os
    rwa [Array.toArray_toList] at this
theorem sortIdsNil (v : Value) (w : World) : Calls Tryz.prog 45 #[.slice none 0 0, v] w fun e w' => e = .returned (.tuple #[]) ∧ w = w' :=
  (AnyF.slices_SortFunc_none Tryz.sortId none 0 v w).mono fun _ _ ⟨h1, h2⟩ => ⟨h1, h2.symm⟩

/-! ### cancellations, by identity -/
instance : Inhabited Canc := ⟨⟨Vector.replicate 32 0, Vector.replicate 16 0, 0, Vector.replicate 32 0⟩⟩
def cfI (a b : Canc) : Int := cmpB a.id b.id
theorem lt_cfI (x y : Canc) : ltOf cfI x y = decide (nm x.id < nm y.id) := lt_nm x.id y.id
theorem swoC : Sort.SWO (ltOf cfI) where
  irrefl x := by rw [lt_cfI]; simp
  trans x y z h1 h2 := by rw [lt_cfI] at *; simp at *; omega
  ntrans x y z h1 h2 := by rw [lt_cfI] at *; simp at *; omega
def SortCPost (acc : List Canc) (w0 : World) (base g c : Nat) (e : Ending) (w' : World) : Prop :=
  e = .returned (.tuple #[]) ∧ Gr w0 w' ∧ ∃ s : List Canc, s.Perm acc ∧ (s.Pairwise fun a b => nm a.id ≤ nm b.id) ∧ w'.ownsRow base 27 81 (.slice (some ⟨g, 0, none⟩) acc.length c) acc.length (s.map cancC).flatten
theorem sortCancs (f : Nat) (eg : ∀ args w, (callFunc f args).run Tryz.prog w = .ok (.enter f args) w) (hcmp : ∀ (x y : Canc) (w : World), Calls Tryz.prog f #[.agg (cancC x).toArray, .agg (cancC y).toArray] w fun e w' => e = .returned (.int .i64 (cfI x y)) ∧ Lay w w')
    (acc : List Canc) (w0 w : World) (base g c : Nat) (hb : w0.heap.size ≤ base) (hg : Gr w0 w) (hl : acc.length < 4611686018427387904) (h : w.ownsRow base 27 81 (.slice (some ⟨g, 0, none⟩) acc.length c) acc.length (acc.map cancC).flatten) :
    Calls Tryz.prog 125 #[.slice (some ⟨g, 0, none⟩) acc.length c, .func (.func f) #[] #[]] w (SortCPost acc w0 base g c) := by
  have hlt := h.lt g rfl
  have hcon := AnyQ.slices_SortFunc Tryz.sortCanc 81 Tryz.isAgg27 Tryz.sizeOf27 cancC cancC_length (fun x v hv => List.all_eq_true.1 (canc_one x) v hv) cfI swoC f #[] g 0 c acc.toArray w eg
    (fun _ _ _ _ x y => (hcmp x y _).mono fun _ _ ⟨he, hl⟩ => ⟨he, hl.grow⟩)
    (holdsK_of_owns cancC 81 cancC_length (by decide) acc h) hlt.2 (by simpa using hl)
  rw [List.size_toArray] at hcon
  change Calls Tryz.prog 125 _ _ _ at hcon
  refine hcon.mono ?_
  rintro e w' ⟨he, d', n, os, hp, hs, rfl⟩
  have hsz : d'.size = acc.length := by have := hp.1; simpa using this
  have hpl : d'.toList.Perm acc := by
    have hp' : Sort.PermIn 0 acc.toArray.size acc.toArray d' := by simpa using hp
    simpa using perm_of_permIn hp'
  refine ⟨he, gr_sortWorldK cancC 81 hg (by omega) 0 n _ os, d'.toList, hpl, ?_, ?_⟩
  · rw [← hsz] at hs
    exact (pairwise_of_sortedIn hs).imp fun {a b} hab => by rw [lt_cfI] at hab; simp at hab; omega
  · have := owns_sortWorldK cancC 81 cancC_length (by decide) (d' := d'.toList) (by rw [Array.length_toList, hsz]) h n os
    rwa [Array.toArray_toList] at this
end Go.Proofs.YtemhfcfebkjioaaGreatDoor

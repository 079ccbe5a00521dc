/- slices.SortFunc at definitions, at most twelve: it returns; of what was there before the slice's memory nothing turns. -/
import Derived.Test.YtemhfcfebkjioaaGreatDoorEver
import Derived.Test.YtemhfcfebkjioaaGreatDoorShelf
namespace Go.Proofs.YtemhfcfebkjioaaGreatDoor
open Go.RowKit

/-- The row of a slice that a call owns, as the sort's contracts ask it. -/
theorem holdsK_of_owns {α : Type} [Inhabited α] (enc : α → List Value) (k : Nat) (hk : ∀ x, (enc x).length = k) (hk0 : 0 < k) {w : World} {base : Nat} {e : TypeId} {g c : Nat} (d : List α)
    (h : w.ownsRow base e k (.slice (some ⟨g, 0, none⟩) d.length c) d.length (d.map enc).flatten) : Sort.HoldsK enc k w g 0 d.toArray := by
  obtain ⟨hlen, h2⟩ := h
  rcases h2 with ⟨h0, _⟩ | ⟨g', cap, cur, hv, _, hh, hc, _, hs, ht⟩
  · cases h0
  · injection hv with e1 e2 e3
    injection e1 with e1
    injection e1 with e1 _
    subst e1
    intro t ht'
    rw [Sort.size_flatK] at ht'
    have htl : t < d.length * k := by simpa using ht'
    have hq : t / k < d.length := (Nat.div_lt_iff_lt_mul hk0).2 htl
    have hm : t % k < k := Nat.mod_lt _ hk0
    have hrows : ∀ r ∈ d.map enc, r.length = k := fun r hr => by obtain ⟨x, _, rfl⟩ := List.mem_map.1 hr; exact hk x
    have hget := flat_get hrows (t / k) (by simpa using hq)
    refine ⟨?_, by simp [World.frozen?, hh]⟩
    rw [Nat.zero_add, cell_of_row w g t cur e (0, 0) hh, Sort.get_flatK enc k _ t (by simpa using htl)]
    have e1 : cur[t]? = (d.map enc).flatten[t]? := by
      rw [← ht, List.getElem?_take, if_pos htl, Array.getElem?_toList]
    have e2 : (d.map enc).flatten[t]? = (enc d[t / k])[t % k]? := by
      have := congrArg (fun l => l[t % k]?) hget
      simp only [rowOf, List.getElem?_take, if_pos hm, List.getElem?_drop, Nat.div_add_mod' t k, List.getElem_map] at this
      exact this
    have hqa : t / k < d.toArray.size := by simpa using hq
    rw [e1, e2, getElem!_pos d.toArray (t / k) hqa, List.getElem?_eq_getElem (by rw [hk]; exact hm), getElem!_pos (enc d.toArray[t / k]) (t % k) (by rw [hk]; exact hm)]
    rfl

theorem gr_sortWorldK {α : Type} [Inhabited α] (enc : α → List Value) (k : Nat) {w0 w : World} (h : Gr w0 w) {blk : Nat} (hb : w0.heap.size ≤ blk) (off m : Nat) (d : Array α) (os : Array Obj) : Gr w0 (sortWorldK enc k w blk off m d os) := by
  refine ⟨h.os, h.tape, h.output, ?_, fun j hj => ?_⟩
  · have := h.size
    simp [sortWorldK, Sort.grow, Sort.putRowK, Sort.putRow, Sort.mapBlock, Sort.ahead]; omega
  · have hjw : j < w.heap.size := Nat.lt_of_lt_of_le hj h.size
    rw [← h.block hj]
    simp only [sortWorldK, Sort.grow, Sort.putRowK, Sort.putRow, Sort.mapBlock, Sort.ahead]
    rw [Array.getElem?_append, if_pos (by simpa using hjw), Array.getElem?_modify, if_neg (by omega)]

/-- A definition whose moderators are one cell. -/
abbrev Dfn1 := { d : Dfn // d.mods.oneCell' = true }
instance : Inhabited Dfn1 := ⟨⟨⟨default, default, ⟨#[]⟩, 0, false, false, .slice none 0 0, ⟨#[]⟩⟩, rfl⟩⟩
def d1C (d : Dfn1) : List Value := dfnC d.1
theorem d1C_len (d : Dfn1) : (d1C d).length = 54 := dfnC_length d.1
theorem d1C_one (d : Dfn1) : oneB (d1C d) = true := by
  have := d.2
  simp [d1C, dfnC, oneB_append, oneB_cons, oneB_bC, oneB_nil, Value.oneCell'] at this ⊢
  exact this
theorem pickLays (blk off size : Nat) (w : World) : CmpLays Tryz.prog 109 #[] d1C 54 (fun x y => cfD x.1 y.1) blk off size w :=
  fun _ _ _ _ x y => (pickCmp x.1 y.1 _).mono fun _ _ ⟨he, hl⟩ => ⟨he, hl.grow⟩
theorem lenAny (n : Nat) (W : World) (h : n ≤ 12) : Calls Tryz.prog 73 #[.int .u64 n] W fun e w' => (∃ l : Int, e = .returned (.int .i64 l)) ∧ w' = W :=
  (Tryz.bits_Len n W (by omega) (by omega)).mono fun _ _ ⟨he, hw⟩ => ⟨⟨_, he⟩, hw⟩
theorem sortSome (acc : List Dfn1) (w0 w : World) (base g c : Nat) (hb : w0.heap.size ≤ base) (hg : Gr w0 w) (hl : acc.length ≤ 12) (h : w.ownsRow base 52 54 (.slice (some ⟨g, 0, none⟩) acc.length c) acc.length (acc.map d1C).flatten) :
    Calls Tryz.prog 108 #[.slice (some ⟨g, 0, none⟩) acc.length c, .func (.func 109) #[] #[]] w fun e w' => e = .returned (.tuple #[]) ∧ Gr w0 w' := by
  have eg : ∀ args w, (callFunc 109 args).run Tryz.prog w = .ok (.enter 109 args) w := enters_of Tryz.func109 (by kernel_rfl) rfl
  have hlt := h.lt g rfl
  have hcon := AnyQ.slices_SortFunc_small Tryz.sortDfn 54 Tryz.isAgg52 Tryz.sizeOf52 d1C d1C_len (fun x v hv => List.all_eq_true.1 (d1C_one x) v hv) (fun x y => cfD x.1 y.1) 109 #[] g 0 c acc.toArray w eg (pickLays g 0 _ w)
    (holdsK_of_owns d1C 54 d1C_len (by decide) acc h) hlt.2 (by simpa using hl) lenAny
  rw [List.size_toArray] at hcon
  change Calls Tryz.prog 108 _ _ _ at hcon
  refine hcon.mono ?_
  rintro e w' ⟨he, n, os, rfl⟩
  exact ⟨he, gr_sortWorldK d1C 54 hg (by omega) 0 n _ os⟩
set_option maxRecDepth 100000 in
set_option maxHeartbeats 1000000 in
theorem insNil (w : World) (fv : Value) : Calls Tryz.prog 193 #[.slice none 0 0, .int .i64 0, .int .i64 0, fv] w fun e w' => e = .returned (.tuple #[]) ∧ w = w' := by
  go_enter Tryz.func193, Tryz.ntmps193
  go_wp2_with fail
  refine wp_loop_rounds 1 ?_
  rw [rounds_succ]
  go_wp2_with fail
  go_end0
  exact ⟨rfl, rfl⟩
set_option maxRecDepth 100000 in
set_option maxHeartbeats 1000000 in
theorem pdqNil (w : World) (n : Int) (fv : Value) : Calls Tryz.prog 151 #[.slice none 0 0, .int .i64 0, .int .i64 0, .int .i64 n, fv] w fun e w' => e = .returned (.tuple #[]) ∧ w = w' := by
  go_enter Tryz.func151, Tryz.ntmps151
  go_wp2_with fail
  refine wp_loop_rounds 1 ?_
  rw [rounds_succ]
  go_wp2_with fail
  refine (insNil _ _).mono ?_
  rintro e w' ⟨rfl, rfl⟩
  go_wp2_with fail
  (try simp only [Exit.inBlock, Exit.then]); refine bodyPost_ret (results_none rfl _ _ _) rfl ?_
  exact ⟨rfl, rfl⟩
set_option maxRecDepth 100000 in
set_option maxHeartbeats 1000000 in
theorem sortNil (w : World) (fv : Value) : Calls Tryz.prog 108 #[.slice none 0 0, fv] w fun e w' => e = .returned (.tuple #[]) ∧ w = w' := by
  go_enter Tryz.func108, Tryz.ntmps108
  go_wp2_with fail
  refine (lenAny 0 _ (by omega)).mono ?_
  rintro e w' ⟨⟨n, rfl⟩, rfl⟩
  go_wp2_with fail
  refine (pdqNil _ _ _).mono ?_
  rintro e w' ⟨rfl, rfl⟩
  go_wp2_with fail
  go_end0
  exact ⟨rfl, rfl⟩
end Go.Proofs.YtemhfcfebkjioaaGreatDoor

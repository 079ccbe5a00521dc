/- IsAuthority at the registry of one authority. -/
import Derived.Test.YtemhfcfebkjioaaGreatDoorNew
namespace Go.Proofs.YtemhfcfebkjioaaGreatDoor
open Go.RowKit

def isAuthB (g : ByteArray) (x : Aut) : Bool := (aut9 == x) && matchB g
set_option maxRecDepth 100000 in
set_option maxHeartbeats 4000000 in
theorem isAuthC (n br bm : Nat) (g : ByteArray) (x : Aut) (w : World) (hr : RegMem w n br bm) (hsz : g.size ≤ 1000000) :
    Calls Tryz.prog 64 #[.pointer (some ⟨br, 0, none⟩), .string g, .agg (bC x).toArray] w fun e w' => e = .returned (.bool (isAuthB g x)) ∧ Gr w w' := by
  obtain ⟨ga, c, q, c2, lb, rest, rest2, n1, h1, h2, h3, h4⟩ := hr
  have d0 : w.cell? ⟨br, 0, none⟩ = some (.slice (some ⟨ga, 0, none⟩) 1 c) := (cell_of_row w br 0 _ _ _ h1).trans rfl
  have d1 : w.cell? ⟨br, 1, none⟩ = some (.slice (some ⟨q, 0, none⟩) 1 c2) := (cell_of_row w br 1 _ _ _ h1).trans rfl
  have d2 : w.cell? ⟨q, 0, none⟩ = some (.pointer (some ⟨lb, 0, none⟩)) := by rw [cell_of_row w q 0 _ _ _ h3, Array.getElem?_append]; rfl
  have r1 := hasRow_block h2 0 17 (by rw [List.length_append, authC_len]; omega)
  have r2 : rowAt w ⟨ga, 0, none⟩ 17 = authC := (rowAt_block h2 0 17 (by rw [List.length_append, authC_len]; omega)).trans (by unfold rowOf; rw [List.drop_zero, List.take_left' authC_len])
  have w1 : br < w.heap.size := World.block_lt_of_cell? w _ d0
  have w2 : q < w.heap.size := World.block_lt_of_cell? w _ d2
  have w3 : ga < w.heap.size := (Array.getElem?_eq_some_iff.1 h2).1
  have hone := auth_one
  have hlen := authC_len
  have hga := auth_author
  have G2 := ((Gr.refl w).alloc (.cells (bC x).toArray 25)).alloc (.cells authC.toArray 87)
  have HV := Lib.hid (verdictC n lb g _ (h4.gr G2) hsz)
  have HG2 := Lib.hid G2
  clear h1 h2 h3 h4 G2
  cases hx : (aut9 == x) with
  | false =>
    go_enter Tryz.func64, Tryz.ntmps64
    go_wp2_with fail
    refine wp_loop_rounds 2 ?_
    rw [rounds_succ]
    go_wp2_with fail
    rw [rounds_succ]
    go_wp2_with fail
    go_ret
    exact ⟨ret_bool (by unfold isAuthB; rw [hx]; rfl), HG2.out⟩
  | true =>
    have hq : Hid (isAuthB g x = matchB g) := by show _ = _; unfold isAuthB; rw [hx]; rfl
    cases hm : matchB g with
    | true =>
      rw [hm] at HV
      go_enter Tryz.func64, Tryz.ntmps64
      go_wp2_with fail
      refine wp_loop_rounds 2 ?_
      rw [rounds_succ]
      go_wp2_with fail
      refine HV.out.mono ?_
      rintro e w1 ⟨rfl, hg⟩
      go_wp2_with fail
      go_ret
      exact ⟨ret_bool (by rw [hq.out, hm]), HG2.out.trans hg⟩
    | false =>
      rw [hm] at HV
      go_enter Tryz.func64, Tryz.ntmps64
      go_wp2_with fail
      refine wp_loop_rounds 2 ?_
      rw [rounds_succ]
      go_wp2_with fail
      refine HV.out.mono ?_
      rintro e w1 ⟨rfl, hg⟩
      go_wp2_with fail
      rw [rounds_succ]
      go_wp2_with fail
      go_ret
      exact ⟨ret_bool (by rw [hq.out, hm]), HG2.out.trans hg⟩
end Go.Proofs.YtemhfcfebkjioaaGreatDoor

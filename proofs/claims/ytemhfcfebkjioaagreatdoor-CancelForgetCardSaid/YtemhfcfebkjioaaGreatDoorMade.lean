/- The statement's Made: the registry of the first twelve definitions. -/
import Derived.Test.YtemhfcfebkjioaaGreatDoorAdd
namespace Go.Proofs.YtemhfcfebkjioaaGreatDoor
open Go.RowKit

/-- A slice of definitions with their moderators. -/
def DefsAt (w : World) (v : Value) (ds : List (Dfn × List Aut)) : Prop := SlAt w v 54 (ds.map fun e => dfnC e.1) ∧ ∀ e ∈ ds, AutsAt w e.1.mods e.2
theorem DefsAt.gr {w w' : World} {v : Value} {ds : List (Dfn × List Aut)} (h : DefsAt w v ds) (hg : Gr w w') : DefsAt w' v ds := ⟨h.1.gr hg, fun e he => (h.2 e he).gr hg⟩
def madeV (ds : List (Dfn × List Aut)) (k : Nat) : List Vis := (ds.take k).foldl (fun L e => addV L e.1 e.2) []
theorem madeV_succ (ds : List (Dfn × List Aut)) (k : Nat) (h : k < ds.length) : madeV ds (k + 1) = addV (madeV ds k) ds[k].1 ds[k].2 := by
  unfold madeV; rw [List.take_succ_eq_append_getElem h, List.foldl_append]; rfl
theorem addV_len (L : List Vis) (d : Dfn) (l : List Aut) : (addV L d l).length ≤ L.length + 1 := by
  unfold addV; split <;> simp
theorem madeV_len (ds : List (Dfn × List Aut)) : ∀ k, (madeV ds k).length ≤ k
  | 0 => by simp [madeV]
  | k + 1 => by
    by_cases h : k < ds.length
    · rw [madeV_succ ds k h]; have := addV_len (madeV ds k) ds[k].1 ds[k].2; have := madeV_len ds k; omega
    · have e : madeV ds (k + 1) = madeV ds k := by unfold madeV; rw [List.take_of_length_le (by omega), List.take_of_length_le (by omega)]
      rw [e]; have := madeV_len ds k; omega
theorem emptyDefs {w : World} {bm : Nat} (h : w.heap[bm]? = some (.map #[] 0)) : Defs w bm 0 (.map []) [] := by
  obtain ⟨es, clock, hb, F, _, _⟩ := World.ownsMap_made w Tryz.prog 23 dR
  rw [heap_alloc_new w _] at hb
  injection hb with hb
  injection hb with h1 h2
  subst h1; subst h2
  refine ⟨⟨#[], 0, h, F, Nat.le_refl _, rfl⟩, fun k => ?_, by simp, rfl, by simp, by simp⟩
  simp [Maps.has]
def MadePost (ds : List (Dfn × List Aut)) (w : World) (e : Ending) (w' : World) : Prop := ∃ br ents, e = .returned (ptrV (some br)) ∧ RegAt w' (some br) ents ∧ ents.map vis = madeV ds 12 ∧ Gr w w'
set_option maxRecDepth 100000 in
set_option maxHeartbeats 4000000 in
theorem madeC (ds : List (Dfn × List Aut)) (v : Value) (w : World) (hE : Env w) (hv : DefsAt w v ds) (_hl : ds.length ≤ 9223372036854775807) :
    Calls Tryz.prog 14 #[v] w (MadePost ds w) := by
  have HV := Lib.hid hv
  obtain ⟨⟨a, cap, rfl, hc, hj⟩, hm⟩ := hv
  have e1 : (ds.map fun e => dfnC e.1).length = ds.length := by simp
  rw [e1] at hc ⊢
  have HJ := Lib.hid hj; have HE := Lib.hid hE; have HM := Lib.hid hm
  clear hj hm hE e1
  go_enter Tryz.func14, Tryz.ntmps14
  go_wp2_with fail
  refine (newC w.heap.size _ (HE.out.gr ((Gr.refl w).alloc _)) (heap_alloc_new w _)).mono ?_
  rintro e w1 ⟨br, bm, rfl, hrm, hbm, hmap, hg1⟩
  have hG1 := Lib.hid (((Gr.refl w).alloc _).trans hg1)
  simp at hbm
  have R1 : Hid (Reg w1 _ br bm []) := ⟨hrm, .map [], emptyDefs hmap⟩
  have hbm' : w.heap.size ≤ bm := by omega
  clear hrm hmap hg1
  go_wp2_with fail
  go_loopw [6, 15, 16, 17, 18, 19, 20, 21, 22, 23, 24, 25, 26, 27, 28, 29, 30] (fun i _ _ _ _ _ _ _ _ _ _ _ _ _ _ _ _ wr => ∃ (k : Nat) (ents : List (Dfn × List Aut)), k ≤ ds.length ∧ k ≤ 12 ∧ i = .int .i64 k ∧ Hid (Gr w wr) ∧ Hid (Reg wr (w.heap.size + 1) br bm ents) ∧ Hid (ents.map vis = madeV ds k)) (fun i _ _ _ _ _ _ _ _ _ _ _ _ _ _ _ _ _ => ds.length - (intOf i).toNat)
  case atStart => exact ⟨0, [], Nat.zero_le _, Nat.zero_le _, rfl, hG1.out, by have := R1.out; simp at this; exact this, rfl⟩
  case round =>
    obtain ⟨k, ents, hk, hk12, rfl, hG, hR, hV⟩ := hrel
    have hle : ents.length ≤ 12 := by have h1 := congrArg List.length hV.out; rw [List.length_map] at h1; have := madeV_len ds k; omega
    by_cases hlt : k < ds.length
    · by_cases h12 : k < 12
      · obtain ⟨b, o, rfl, hb, q1, q2⟩ := HJ.out k (by simpa using hlt)
        have u1 := (hG.out.hasRow hb).trans q1
        have u2 := (hG.out.rowAt hb).trans q2
        rw [List.getElem_map] at u2
        have HS := Lib.hid (madeV_succ ds k hlt)
        have HA := Lib.hid (addC _ br bm ds[k].1 ds[k].2 ents wr (HE.out.gr hG.out) ((HM.out _ (List.getElem_mem hlt)).gr hG.out) hR.out (by omega))
        have hk1 : (k : Int) < (ds.length : Int) := by omega
        have hk2 : (0 : Int) ≤ (k : Int) := by omega
        have hk3 : (k : Int) < 12 := by omega
        clear q1 q2
        generalize ds[k].1 = d at *
        generalize ds[k].2 = l at *
        go_wp2_with fail
        refine HA.out.mono ?_
        rintro e w2 ⟨r, ents', rfl, hR', hg2, hV'⟩
        have G2 := Lib.hid (hG.out.grown hg2 (fun k' hk' => by cases hk'; exact hbm'))
        have R2 := Lib.hid hR'
        have V2 : Hid (ents'.map vis = madeV ds (k + 1)) := by show _ = _; rw [HS.out, ← hV.out]; exact hV'
        clear hR' hg2 hV'
        go_wp2_with fail
        go_roundw
        case rel => exact ⟨k + 1, ents', by omega, by omega, by go_num, G2.out, R2.out, V2.out⟩
        case measure => simp [intOf]; omega
      · have hke : Hid (madeV ds k = madeV ds 12) := by show _ = _; rw [show k = 12 by omega]
        have hk3 : ¬ (k : Int) < 12 := by omega
        have hk1 : (k : Int) < (ds.length : Int) := by omega
        go_wp2_with fail
        go_ret
        exact ⟨br, ents, rfl, hR.out.at hle, hV.out.trans hke.out, hG.out⟩
    · have hke : Hid (madeV ds k = madeV ds 12) := by show _ = _; unfold madeV; rw [List.take_of_length_le (by omega), List.take_of_length_le (by omega)]
      have hk1 : ¬ (k : Int) < (ds.length : Int) := by omega
      go_wp2_with fail
      go_ret
      exact ⟨br, ents, rfl, hR.out.at hle, hV.out.trans hke.out, hG.out⟩
end Go.Proofs.YtemhfcfebkjioaaGreatDoor

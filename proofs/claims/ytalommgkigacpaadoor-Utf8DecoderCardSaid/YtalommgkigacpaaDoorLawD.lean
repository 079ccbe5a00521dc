/- The law Utf8Decoder, walked: for any pieces and any closes it answers true, and no block that came in is changed. Conditions: the pieces and the closes lie as arguments lie. -/
import Derived.Test.YtalommgkigacpaaDoorChunk
import Derived.RegionTactic
import Derived.Deep.RegionHeldLaw
namespace Go.Proofs.YtalommgkigacpaaDoor
open Go.RowKit
def AtEnd (A : Act) (W : World) (e : Exit) (a : Act) (w : World) : Prop := match e with | .normal => a = A ∧ w = W | _ => False
theorem wp_to {P : Program} {c : Code} {Q' : Exit → Act → World → Prop} {a : Act} {w : World} (A : Act) (W : World) (h : c.wp P (AtEnd A W) a w) (hq : Q' .normal A W) : c.wp P Q' a w :=
  Code.wp_mono (fun e a w h => by cases e <;> first | exact h.elim | (obtain ⟨h2, h3⟩ := h; subst h2; subst h3; exact hq)) h
theorem step_append_run {P : Program} {ops : Array Oper} {o : Oper} {a : Act} {w : World} {K : Act → World → Prop} {Q : Exit → Act → World → Prop} {E : Prop}
    (hg : o.guard = none) (d : Nat) (hd : o.dst = some d) (s x : Operand) (t : TypeId) (hop : o.op = Op.call { callee := Callee.builtin Builtin.append, args := #[s, x], argTypes := #[t, t] })
    (v y : Value) (hs : a.eval s = v) (hx : a.eval x = y) (v' : Value) (w' : World) (hrun : (Builtin.append_ #[t, t] o.type #[v, y]).run P w = .ok v' w')
    (hK : K (a.put (some d) v') w') :
    if Region.wanted o (yielded ops a.tmps) = true then Oper.wp P o a w K Q else E := by
  have hw : Region.wanted o (yielded ops a.tmps) = true := by simp [Region.wanted, hg]
  rw [if_pos hw]
  unfold Oper.wp
  simp [execOp, hop, resolve, invoke, builtin, hs, hx, hrun, Result.andThen]
  show K (a.put o.dst v') w'
  rw [hd]; exact hK
set_option maxHeartbeats 4000000 in
set_option maxRecDepth 100000 in
theorem utf8Decoder_walk (a ac : Option Addr) (len cap lenc capc : Nat) (w : World) (hT : Tab w) (_hl1 : len ≤ 9223372036854775807) (_hl2 : lenc ≤ 9223372036854775807) (hin : RowsIn2 w a len) (hbo : BoolsIn w ac lenc) :
    Calls Tryd.prog 13 #[.slice a len cap, .slice ac lenc capc] w fun e w' => e = .returned (.bool true) ∧ Gr w w' := by
  have T0 := Lib.hid hT
  have HIN := Lib.hid hin
  have HBO := Lib.hid hbo
  clear hT hin hbo
  go_enter Tryd.func13, Tryd.ntmps13
  go_wp2_with fail
  refine (write_nil _ _).mono ?_
  rintro e w' ⟨rfl, rfl⟩
  have T0' := Lib.hid (T0.out.gr ((Gr.refl w).alloc (.cells #[.int .u8 65] 5)))
  go_wp2_with fail
  refine (known_any _ T0'.out).mono ?_
  rintro e w1 ⟨rfl, hg1⟩
  go_wp2_with fail
  refine (pending_nil _).mono ?_
  rintro e w' ⟨rfl, rfl⟩
  go_wp2_with fail
  refine (close_nil _).mono ?_
  rintro e w' ⟨rfl, rfl⟩
  go_wp2_with fail
  refine (newDec_any _).mono ?_
  rintro e w3 ⟨rfl, hd3, hg3⟩
  have hG3 : Gr w w3 := (((Gr.refl w).alloc _).trans hg1).trans hg3
  have hsz : w.heap.size < w1.heap.size := by have := hg1.size; simp at this; omega
  have H3 := Lib.hid hd3
  generalize hb : w1.heap.size = b at *
  clear hb hd3 hg1 hg3
  go_wp2_with fail
  go_loopw [9, 10, 11, 12, 13, 14, 15, 16, 17, 18] (fun u9 u10 u11 _ _ _ _ _ _ _ wr => ∃ (p : ByteArray) (c : Bool) (k : Nat), k ≤ len ∧ u9 = .string p ∧ u10 = .bool c ∧ u11 = .int .i64 k ∧ p.size ≤ 40 * k ∧ Hid (DecAt wr b p c) ∧ Hid (Gr w wr)) (fun _ _ u11 _ _ _ _ _ _ _ _ => len - (intOf u11).toNat)
  case atStart => exact ⟨⟨#[]⟩, false, 0, Nat.zero_le _, rfl, rfl, rfl, by decide, H3.out, hG3⟩
  case round =>
    obtain ⟨p, c, k, hk, rfl, rfl, rfl, sz1, kD, kG⟩ := hrel
    by_cases hc : k < len ∧ k < 12
    · obtain ⟨c1, c2⟩ := hc
      obtain ⟨blk, off, rfl, hblk, a2, l2, cp2, hcell, hl22, hc22, hby⟩ := HIN.out k c1
      have hcw := (kG.out.cell (p := ⟨blk, off + k, none⟩) hblk).trans hcell
      clear hcell
      have HBY := Lib.hid hby
      clear hby
      have hcw2 : (wr.alloc (.cells #[] 5)).cell? ⟨blk, off + k, none⟩ = some (.slice a2 l2 cp2) := by
        rw [World.cell?_alloc_past _ _ _ (by have := kG.out.size; simp; omega)]; exact hcw
      have hm0 : (min (l2 : Int) 40).toNat ≤ l2 := by omega
      have hm1 : (min (l2 : Int) 40).toNat ≤ 40 := by omega
      have hm2 : (0 : Int) ≤ min (l2 : Int) 40 := by omega
      have hm3 : min (l2 : Int) 40 ≤ (cp2 : Int) := by omega
      obtain ⟨t, v', W', hrun, hts, hgW, hconv⟩ := chunk_run w wr kG.out a2 l2 cp2 _ HBY.out hm0 hm1
      have HC := Lib.hid hconv
      have HG := Lib.hid hgW
      have HR := Lib.hid hrun
      have hcw3 : W'.cell? ⟨blk, off + k, none⟩ = some (.slice a2 l2 cp2) := (HG.out.cell (p := ⟨blk, off + k, none⟩) (Nat.lt_of_lt_of_le hblk kG.out.size)).trans hcw
      clear hconv hgW hrun
      go_wp2_with fail
      apply wp_to (W := W')
      case h =>
        go_region_held_law (fun u => u.cell? ⟨blk, off + k, none⟩ = some (.slice a2 l2 cp2)) (first | go_keep | exact hcw2 | exact hcw | exact hcw3) (refine step_append_run rfl 70 rfl (.tmp 58) (.tmp 69) 38 rfl (.slice (some ⟨wr.heap.size, 0, none⟩) 0 0) (.slice a2 (min (l2 : Int) 40).toNat cp2) (by simp [Act.eval]) (by simp [Act.eval]) v' W' HR.out ?_)
        all_goals exact ⟨rfl, rfl⟩
      have hz : t.size ≤ 40 := by omega
      have hcv0 : (convert 38 9 v').run Tryd.prog W' = .ok (.string t) W' := HC.out W' (Gr.refl W')
      have KG' := Lib.hid (kG.out.trans HG.out)
      have KD' := Lib.hid (kD.out.gr HG.out)
      clear HR hm0 hm1 hm2 hm3 hcw hcw2 hcw3 hts HBY hl22 hc22 kD kG HG
      go_wp2_with fail
      refine (refW_all p t _ (by omega) (by omega)).mono ?_
      rintro e w2 ⟨rfl, hg2⟩
      have K2 := Lib.hid (KG'.out.trans hg2)
      have D2 := Lib.hid (KD'.out.gr hg2)
      have hcv2 : Hid (∀ n, (convert 38 9 v').run Tryd.prog (w2.drewN n) = .ok (.string t) (w2.drewN n)) := fun n => HC.out _ (hg2.drewN n)
      have hwr := write_all b p t v' w2
      have HW := Lib.hid hwr
      have hsz2 := wRest_size p t
      clear hg2 hwr
      generalize wWant p t = want at *
      generalize wRest p t = rest at *
      generalize wErr p t = f at *
      cases c with
      | true =>
        go_wp2_with fail
        refine (write_closed b p v' w2 D2.out).mono ?_
        rintro e w' ⟨rfl, rfl⟩
        go_wp2_with fail
        refine (pending_any b p true _ D2.out).mono ?_
        rintro e w' ⟨rfl, rfl⟩
        by_cases hlc : k < lenc
        · obtain ⟨bb, oo, rfl, hbb, cc, hcc⟩ := HBO.out k hlc
          have hcc2 : w2.cell? ⟨bb, oo + k, none⟩ = some (.bool cc) := (K2.out.cell (p := ⟨bb, oo + k, none⟩) hbb).trans hcc
          clear hcc
          cases cc with
          | false =>
            go_wp2_with fail
            exact ⟨⟨p, true, k + 1, by omega, rfl, rfl, by simp, by omega, D2.out, K2.out⟩, by simp [intOf]; omega⟩
          | true =>
            go_wp2_with fail
            refine (close_closed b p _ D2.out).mono ?_
            rintro e w' ⟨rfl, rfl⟩
            go_wp2_with fail
            refine (pending_any b p true _ D2.out).mono ?_
            rintro e w' ⟨rfl, rfl⟩
            go_wp2_with fail
            exact ⟨⟨p, true, k + 1, by omega, rfl, rfl, by simp, by omega, D2.out, K2.out⟩, by simp [intOf]; omega⟩
        · go_wp2_with fail
          exact ⟨⟨p, true, k + 1, by omega, rfl, rfl, by simp, by omega, D2.out, K2.out⟩, by simp [intOf]; omega⟩
      | false =>
        go_wp2_with fail
        refine (HW.out D2.out hcv2.out (by omega) (by omega)).mono ?_
        rintro e w3 ⟨rfl, d3, b3⟩
        have K3 := Lib.hid (show Gr w w3 from Below.trans K2.out (Below.mono b3 (by omega)))
        have D3 := Lib.hid d3
        clear d3 b3 HW D2 hcv2 hcv0 HC
        go_wp2_with fail
        refine (pending_any b rest false _ D3.out).mono ?_
        rintro e w' ⟨rfl, rfl⟩
        by_cases hlc : k < lenc
        · obtain ⟨bb, oo, rfl, hbb, cc, hcc⟩ := HBO.out k hlc
          have hcc2 : w3.cell? ⟨bb, oo + k, none⟩ = some (.bool cc) := (K3.out.cell (p := ⟨bb, oo + k, none⟩) hbb).trans hcc
          clear hcc
          cases cc with
          | false =>
            go_wp2_with fail
            exact ⟨⟨rest, false, k + 1, by omega, rfl, rfl, by simp, by omega, D3.out, K3.out⟩, by simp [intOf]; omega⟩
          | true =>
            by_cases hr : rest.toList = []
            · have hr2 : rest.toList.isEmpty = true := by rw [hr]; rfl
              go_wp2_with fail
              refine (close_ok b rest _ D3.out hr hr2).mono ?_
              rintro e w4 ⟨rfl, d4, b4⟩
              have K4 := Lib.hid (show Gr w w4 from Below.trans K3.out (Below.mono b4 (by omega)))
              have D4 := Lib.hid d4
              clear d4 b4
              go_wp2_with fail
              refine (pending_any b rest true _ D4.out).mono ?_
              rintro e w' ⟨rfl, rfl⟩
              go_wp2_with fail
              exact ⟨⟨rest, true, k + 1, by omega, rfl, rfl, by simp, by omega, D4.out, K4.out⟩, by simp [intOf]; omega⟩
            · have hr2 : rest.toList.isEmpty = false := by cases h : rest.toList with | nil => exact absurd h hr | cons => rfl
              go_wp2_with fail
              refine (close_pending b rest _ D3.out hr hr2).mono ?_
              rintro e w' ⟨rfl, rfl⟩
              go_wp2_with fail
              refine (pending_any b rest false _ D3.out).mono ?_
              rintro e w' ⟨rfl, rfl⟩
              go_wp2_with fail
              exact ⟨⟨rest, false, k + 1, by omega, rfl, rfl, by simp, by omega, D3.out, K3.out⟩, by simp [intOf]; omega⟩
        · go_wp2_with fail
          exact ⟨⟨rest, false, k + 1, by omega, rfl, rfl, by simp, by omega, D3.out, K3.out⟩, by simp [intOf]; omega⟩
    · by_cases c1 : k < len
      · have c2 : ¬ k < 12 := fun h => hc ⟨c1, h⟩
        go_wp2_with fail
        go_ret
        exact ⟨rfl, kG.out⟩
      · go_wp2_with fail
        go_ret
        exact ⟨rfl, kG.out⟩
end Go.Proofs.YtalommgkigacpaaDoor

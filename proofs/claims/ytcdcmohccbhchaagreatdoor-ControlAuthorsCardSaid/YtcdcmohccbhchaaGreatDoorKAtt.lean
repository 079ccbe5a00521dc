/- control.AuthorText. -/
import Derived.Test.YtcdcmohccbhchaaGreatDoorKAtx
import Derived.Test.YtcdcmohccbhchaaGreatDoorKOwu
namespace Go.Proofs.YtcdcmohccbhchaaGreatDoor
open Go.RowKit

/-- The end of a region that appends: a slice somewhere, in a world that R tells of. -/
def AtEndR (A : Option Addr → Nat → Act) (R : Option Addr → Nat → World → Prop) (e : Exit) (a : Act) (w : World) : Prop := match e with | .normal => ∃ x n, R x n w ∧ a = A x n | _ => False
theorem wp_toR {P : Program} {c : Code} {Q' : Exit → Act → World → Prop} {a : Act} {w : World} (A : Option Addr → Nat → Act) (R : Option Addr → Nat → World → Prop) (h : c.wp P (AtEndR A R) a w) (hq : ∀ x n W, R x n W → Q' .normal (A x n) W) : c.wp P Q' a w :=
  Code.wp_mono (fun e a w h => by cases e <;> first | exact h.elim | (obtain ⟨x, n, h2, h3⟩ := h; subst h3; exact hq x n w h2)) h
theorem run_makeU (n : Nat) (h : n ≤ 281474976710656) (w : World) : (Instr.makeSlice 69 (.int .i64 0) (.int .i64 (n : Int))).run Tryz.prog w = .ok (.slice (some ⟨w.heap.size, 0, none⟩) 0 n) (w.alloc (.cells (madeCells #[.int .u8 0] n) 5)) := by
  obtain ⟨i, hi, hzz⟩ := Option.map_eq_some_iff.1 infoU0
  simp only [Prod.mk.injEq] at hzz
  obtain ⟨hz, hs, hb⟩ := hzz
  have hr := run_make (P := Tryz.prog) w 69 5 i (.int .u8 0) Tryz.underlying69 hi hz .i64 .i64 0 n (Int.le_refl _) (by omega) (by rw [hb]; omega) (by omega)
  rw [hs] at hr
  simp only [Nat.mul_one, Int.toNat_zero, Int.toNat_natCast] at hr
  exact hr
theorem OwnU.fresh (w : World) (base n b : Nat) (hbe : b = w.heap.size) (hb : base ≤ w.heap.size) (hn : n ≤ 281474976710656) : OwnU (w.alloc (.cells (madeCells #[.int .u8 0] n) 5)) base (.slice (some ⟨b, 0, none⟩) 0 n) [] := by
  subst hbe
  exact World.ownsRow_made (size := 1) w _ n hb (by unfold maxLen; omega) (by rw [Nat.mul_one]; simp [madeCells])
theorem OwnU.cells {w : World} {base : Nat} {v : Value} {l : List UInt8} (h : OwnU w base v l) (hl : l ≠ []) : ∃ g c, v = .slice (some ⟨g, 0, none⟩) l.length c ∧ l.length ≤ c ∧ g < w.heap.size ∧ base ≤ g ∧ ∀ (j : Nat) x, l[j]? = some x → w.cell? ⟨g, 0 + j, none⟩ = some (cU x) := by
  obtain ⟨_, h2⟩ := h
  rcases h2 with ⟨_, h0⟩ | ⟨g, cap, cur, hv, hg, hh, hc, hm, hs, ht⟩
  · exact absurd (List.length_eq_zero_iff.1 h0) hl
  · refine ⟨g, cap, hv, hc, (Array.getElem?_eq_some_iff.1 hh).1, hg, fun j x hj => ?_⟩
    rw [Nat.zero_add, cell_of_row _ _ _ _ _ _ hh]
    have hlt := (List.getElem?_eq_some_iff.1 hj).1
    have := congrArg (fun l => l[j]?) ht
    simp only [List.getElem?_take, Nat.mul_one, if_pos hlt, List.getElem?_map, hj, Option.map_some] at this
    rw [← this, Array.getElem?_toList]
/-- string(b). -/
theorem OwnU.str {w : World} {base : Nat} {v : Value} {l : List UInt8} (h : OwnU w base v l) : (convert 69 9 v).run Tryz.prog w = .ok (.string (bs l)) w := by
  by_cases h0 : l = []
  · subst h0
    obtain ⟨_, h2⟩ := h
    rcases h2 with ⟨rfl, _⟩ | ⟨g, cap, cur, rfl, hg, hh, hc, hm, hs, ht⟩
    · exact run_convert_bytes_nil w 69 5 Tryz.underlying69 Tryz.underlying5 0 0 9 Tryz.underlying9
    · exact run_convert_bytes_back w 69 9 5 ⟨g, 0, none⟩ cap [] Tryz.underlying69 Tryz.underlying5 Tryz.underlying9 (fun j hj => by simp at hj)
  · obtain ⟨g, c, rfl, hc, hg, _, hcell⟩ := h.cells h0
    exact run_convert_bytes_back w 69 9 5 ⟨g, 0, none⟩ c l Tryz.underlying69 Tryz.underlying5 Tryz.underlying9 (fun j hj => by rw [Addr.add_lit]; exact hcell j _ (List.getElem?_eq_getElem hj))
theorem run_indexA {n : Nat} (t : TypeId) (h : Tryz.prog.underlying t = some (.array n 5)) (x : Vector UInt8 n) (k : Nat) (hk : k < n) (w : World) : (Instr.index t (.agg (bC x).toArray) (.int .i64 (k : Int))).run Tryz.prog w = .ok (.int .u8 (x[k].toNat : Int)) w := by
  have e : (bC x)[k]? = some (.int .u8 (x[k].toNat : Int)) := bC_at x k hk
  obtain ⟨i, z, hi, _, hs, _⟩ := infoU
  simp [Instr.index, asIntOf, run_underlying h, hk, part, isAgg, run_underlying Tryz.underlying5, sizeOf, typeInfo, hi, hs, e]
theorem and15 : ∀ x : UInt8, bits .and .u8 (x.toNat : Int) 15 = ((x.toNat % 16 : Nat) : Int) := all_u8 (by decide +kernel)
theorem digit_fin : ∀ i : Fin 16, (⟨#[48, 49, 50, 51, 52, 53, 54, 55, 56, 57, 97, 98, 99, 100, 101, 102]⟩ : ByteArray)[i.val]'(i.isLt) = hexD i.val := by decide +kernel
theorem run_digit (q : Nat) (hq : q < 16) (w : World) : (Instr.index 9 (.string ⟨#[48, 49, 50, 51, 52, 53, 54, 55, 56, 57, 97, 98, 99, 100, 101, 102]⟩) (.int .u8 (q : Int))).run Tryz.prog w = .ok (.int .u8 ((hexD q).toNat : Int)) w := by
  rw [run_index_string w 9 _ .u8 _ Tryz.underlying9, dif_pos (by constructor <;> (first | omega | (show (q : Int) < 16; omega)))]
  have h := digit_fin ⟨q, hq⟩
  simp only [Int.toNat_natCast]
  rw [h]
set_option maxRecDepth 100000 in
set_option maxHeartbeats 2000000 in
theorem authorTextC (a : Aut) (w : World) : Calls Tryz.prog 24 #[.agg (bC a).toArray] w fun e w' => e = .returned (.string (bs (autT a))) ∧ Gr w w' := by
  have hmk : ∀ w, (Instr.makeSlice 69 (.int .i64 0) (.int .i64 32)).run Tryz.prog w = .ok (.slice (some ⟨w.heap.size, 0, none⟩) 0 32) (w.alloc (.cells (madeCells #[.int .u8 0] 32) 5)) := run_makeU 32 (by decide)
  have HF := Lib.hid (OwnU.fresh (w.alloc (.cells (bC a).toArray 52)) w.heap.size 32 (w.heap.size + 1) (by simp) (by simp) (by decide))
  have HG := Lib.hid (((Gr.refl w).alloc (.cells (bC a).toArray 52)).alloc (.cells (madeCells #[.int .u8 0] 32) 5))
  go_enter Tryz.func24, Tryz.ntmps24
  go_wp2_with fail
  go_loopw [3, 5, 8, 9, 10, 11, 12, 13, 14, 15, 16, 17, 18, 19, 20] (fun v _ i _ _ _ _ _ _ _ _ _ _ _ _ wr => ∃ k : Nat, k ≤ 16 ∧ i = .int .i64 k ∧ Hid (Gr w wr) ∧ Hid (OwnU wr w.heap.size v (hexT (a.toList.take k)))) (fun _ _ i _ _ _ _ _ _ _ _ _ _ _ _ _ => 16 - (intOf i).toNat)
  case atStart => exact ⟨0, Nat.zero_le _, rfl, HG.out, HF.out⟩
  case round =>
    obtain ⟨k, hk, rfl, hG, hO⟩ := hrel
    by_cases hlt : k < 16
    · have hk1 : (k : Int) < 16 := by omega
      have hk2 : (0 : Int) ≤ (k : Int) := by omega
      have hix := run_indexA 52 Tryz.underlying52 a k hlt
      have HT : Hid (hexT (a.toList.take k) ++ [hexD (a[k].toNat / 16), hexD (a[k].toNat % 16)] = hexT (a.toList.take (k + 1))) := (hexT_take a.toList k (by simpa using hlt)).symm
      have hand := and15 a[k]
      have hx := a[k].toNat_lt
      have HN : Hid ((hexT (a.toList.take k)).length + 2 = 2 * k + 2) := by show _ = _; rw [hexT_len, List.length_take]; simp; omega
      generalize hexT (a.toList.take k) = ds at *
      generalize a[k].toNat = x at *
      obtain ⟨q, hq, hq16, hqx⟩ : ∃ q : Nat, (x : Int) / 16 = (q : Int) ∧ q < 16 ∧ x / 16 = q := ⟨x / 16, by omega, by omega, rfl⟩
      obtain ⟨r, hr, hr16⟩ : ∃ r : Nat, x % 16 = r ∧ r < 16 := ⟨x % 16, rfl, by omega⟩
      rw [hr] at hand HT
      rw [hqx] at HT
      have hd1 := run_digit q hq16
      have hd2 := run_digit r hr16
      generalize hexD q = d1 at *
      generalize hexD r = d2 at *
      go_wp2_with fail
      apply wp_toR (R := fun x n W => Hid (Gr w W) ∧ Hid (OwnU W w.heap.size (.slice x (2 * k + 2) n) (ds ++ [d1, d2])))
      case h =>
        go_region_held_law (fun _ => True) (trivial)
          (first | (refine step_append_u8 rfl 19 rfl (.tmp 11) (.tmp 18) rfl w.heap.size u3 ds (by simp [Act.eval]) (hO.out.gr ((Gr.refl wr).drew.alloc _)) (.slice (some ⟨wr.heap.size, 0, none⟩) 2 2) [d1, d2] (by simp [Act.eval]) (OwnU.made (l := [d1, d2]) (heap_alloc_new wr.drew _) (by have := hG.out.size; omega) (by simp)) (2 * k + 2) HN.out (by omega) (by have := hG.out.size; simp; omega) ?_; intro a1 c1 w1 ho1 hg1))
        all_goals exact ⟨a1, c1, ⟨((hG.out.drew.alloc _).grown hg1 (fun q hq => (World.ownsRow.lt hO.out q hq).1)), ho1⟩, rfl⟩
      rintro x1 n1 W1 ⟨hG1, hO1⟩
      rw [HT.out] at hO1
      clear hd1 hd2 hix HT
      go_wp2_with fail
      go_roundw
      case rel => exact ⟨k + 1, by omega, by go_num, hG1.out, hO1.out⟩
      case measure => simp [intOf]; omega
    · have hk1 : ¬ (k : Int) < 16 := by omega
      have HO := Lib.hid hO.out.str
      have hcv : (convert 69 9 u3).run Tryz.prog wr = .ok (.string (bs (autT a))) wr := by
        have e : hexT (a.toList.take k) = autT a := by rw [List.take_of_length_le (by simp; omega)]; rfl
        rw [← e]; exact HO.out
      go_wp2_with fail
      go_ret
      exact ⟨rfl, hG.out⟩
end Go.Proofs.YtcdcmohccbhchaaGreatDoor

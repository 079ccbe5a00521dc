/- The reference's digit: a hexadecimal digit's value, or -1. Authors' texts: the reference's Author. Slices of bytes that a call owns: made, appended to. control.AuthorText. control.ParseAuthor and the reference's. The reference's ParseAuthor. Identities of authors in blocks of their own. ascii.Hex, msgid.digits, msgid.Print. control.modeText of a moderated group. -/
import Derived.Test.YteknmbijodbfoaaGreatDoorBB
import Derived.Test.YteknmbijodbfoaaGreatDoorBC
namespace Go.Proofs.YteknmbijodbfoaaGreatDoor
open Go.RowKit

theorem hexV_if : ∀ c : UInt8, hexV c = if 48 ≤ c.toNat ∧ c.toNat ≤ 57 then (c.toNat : Int) - 48 else if 97 ≤ c.toNat ∧ c.toNat ≤ 102 then (c.toNat : Int) - 87 else -1 := all_u8 (by decide +kernel)
end Go.Proofs.YteknmbijodbfoaaGreatDoor

namespace Go.Proofs.YteknmbijodbfoaaGreatDoor
open Go.RowKit

theorem bC_at {n : Nat} (x : Vector UInt8 n) (k : Nat) (h : k < n) : (bC x)[k]? = some (.int .u8 (x[k].toNat : Int)) := by simp [bC, h]
theorem hexT_take (l : List UInt8) (k : Nat) (h : k < l.length) : hexT (l.take (k + 1)) = hexT (l.take k) ++ [hexD (l[k].toNat / 16), hexD (l[k].toNat % 16)] := by
  rw [List.take_succ_eq_append_getElem h]; unfold hexT; rw [List.flatMap_append]; rfl
theorem bs_app (a b : Str) : bs a ++ bs b = bs (a ++ b) := by
  apply ByteArray.ext; simp [bs]
theorem dig_fin : ∀ q : Fin 16, (⟨#[48, 49, 50, 51, 52, 53, 54, 55, 56, 57, 97, 98, 99, 100, 101, 102]⟩ : ByteArray).extract q.val (q.val + 1) = bs [hexD q.val] := by decide +kernel
theorem dig_ext (q : Nat) (h : q < 16) : (⟨#[48, 49, 50, 51, 52, 53, 54, 55, 56, 57, 97, 98, 99, 100, 101, 102]⟩ : ByteArray).extract q (q + 1) = bs [hexD q] := dig_fin ⟨q, h⟩
end Go.Proofs.YteknmbijodbfoaaGreatDoor

namespace Go.Proofs.YteknmbijodbfoaaGreatDoor
open Go.RowKit

def cU (b : UInt8) : Value := .int .u8 (b.toNat : Int)
def rowsU (l : List UInt8) : List (List Value) := l.map fun s => [cU s]
theorem rowsU_flat (l : List UInt8) : (rowsU l).flatten = l.map cU := by
  induction l with
  | nil => rfl
  | cons s l ih => unfold rowsU at *; rw [List.map_cons, List.flatten_cons, ih]; rfl
theorem rowsU_len (l : List UInt8) : ∀ r ∈ rowsU l, r.length = 1 := by
  intro r hr; obtain ⟨s, _, rfl⟩ := List.mem_map.1 hr; rfl
theorem rowsU_one (l : List UInt8) : ∀ r ∈ rowsU l, oneB r = true := by
  intro r hr; obtain ⟨s, _, rfl⟩ := List.mem_map.1 hr; rfl
theorem rowsU_length (l : List UInt8) : (rowsU l).length = l.length := by unfold rowsU; simp
/-- v is a slice of the bytes l, that the call owns. -/
def OwnU (w : World) (base : Nat) (v : Value) (l : List UInt8) : Prop := w.ownsRow base 5 1 v l.length (l.map cU)
theorem OwnU.nil (w : World) (base : Nat) : OwnU w base (.slice none 0 0) [] := ⟨rfl, .inl ⟨rfl, rfl⟩⟩
theorem OwnU.made {w : World} {base b : Nat} {l : List UInt8} (h : w.heap[b]? = some (.cells (l.map cU).toArray 5 (0, 0))) (hb : base ≤ b) (hl : l.length ≤ 1000000) : OwnU w base (.slice (some ⟨b, 0, none⟩) l.length l.length) l :=
  ⟨by simp, .inr ⟨b, l.length, _, rfl, hb, h, Nat.le_refl _, by unfold maxLen; omega, by simp, by rw [Nat.mul_one, List.toList_toArray, List.take_of_length_le (by simp)]⟩⟩
theorem OwnU.gr {w w' : World} {base : Nat} {v : Value} {l : List UInt8} (h : OwnU w base v l) (hg : Gr w w') : OwnU w' base v l := World.ownsRow.kept h hg.grownBy (by cases v.ownBlock <;> simp)
theorem OwnU.sl {w : World} {base : Nat} {v : Value} {l : List UInt8} (h : OwnU w base v l) : SlAt w v 1 (rowsU l) :=
  slAt_of_owns (rowsU_len l) (by rw [rowsU_length, rowsU_flat]; exact h)
theorem infoU0 : (Tryz.prog.info? 5).map (fun i => (i.zero, i.size, i.bytes)) = some (some (.int .u8 0), 1, 1) := by kernel_rfl
theorem infoU : ∃ i z, Tryz.prog.info? 5 = some i ∧ i.zero = some z ∧ i.size = 1 ∧ i.bytes = 1 ∧ z.cells.size = 1 := by
  have h := infoU0
  cases hi : Tryz.prog.info? 5 with
  | none => rw [hi] at h; cases h
  | some i =>
    rw [hi] at h
    simp only [Option.map_some, Option.some.injEq, Prod.mk.injEq] at h
    exact ⟨i, .int .u8 0, rfl, h.1, h.2.1, h.2.2, rfl⟩
/-- .. as a step of a region that draws its order. -/
theorem step_append_u8 {ops : Array Oper} {o : Oper} {a : Act} {w : World} {K : Act → World → Prop} {Q : Exit → Act → World → Prop} {E : Prop}
    (hg : o.guard = none) (d : Nat) (hd : o.dst = some d) (s x : Operand) (hop : o.op = Op.call { callee := Callee.builtin Builtin.append, args := #[s, x], argTypes := #[60, 60] })
    (base : Nat) (v : Value) (xs : List UInt8) (hs : a.eval s = v) (hown : OwnU w base v xs) (sv : Value) (ys : List UInt8) (hx : a.eval x = sv) (hsl : OwnU w base sv ys) (N : Nat) (hN : xs.length + ys.length = N) (h63 : N ≤ 1000000) (hbase : base ≤ w.heap.size)
    (hK : ∀ a' c' w', OwnU w' base (.slice a' N c') (xs ++ ys) → w.grownBy w' v.ownBlock → K (a.put (some d) (.slice a' N c')) w') :
    if Region.wanted o (yielded ops a.tmps) = true then Oper.wp Tryz.prog o a w K Q else E := by
  subst hN
  have hw : Region.wanted o (yielded ops a.tmps) = true := by simp [Region.wanted, hg]
  rw [if_pos hw]
  obtain ⟨i, z, i1, i2, i3, i4, i5⟩ := infoU
  obtain ⟨a', c', w', hrun, h2, h3, _⟩ := run_append_sl (P := Tryz.prog) w base 60 o.type 5 i z 1 1 Tryz.underlying60 i1 i2 i3 i4 i5 (by decide) v xs.length (xs.map cU) hown sv (rowsU ys) hsl.sl (rowsU_len _) (rowsU_one _) (by rw [rowsU_length]; exact h63) (by decide) hbase
  rw [rowsU_length] at hrun h2
  rw [rowsU_flat] at h2
  unfold Oper.wp
  simp [execOp, hop, resolve, invoke, builtin, hs, hx, hrun, Result.andThen]
  show K (a.put o.dst _) w'
  rw [hd]
  refine hK a' c' w' ?_ h3
  unfold OwnU
  rw [List.map_append, List.length_append]; exact h2
end Go.Proofs.YteknmbijodbfoaaGreatDoor

namespace Go.Proofs.YteknmbijodbfoaaGreatDoor
open Go.RowKit

/-- The end of a region that appends: a slice somewhere, in a world that R tells of. -/
def AtEndR (A : Option Addr → Nat → Act) (R : Option Addr → Nat → World → Prop) (e : Exit) (a : Act) (w : World) : Prop := match e with | .normal => ∃ x n, R x n w ∧ a = A x n | _ => False
theorem wp_toR {P : Program} {c : Code} {Q' : Exit → Act → World → Prop} {a : Act} {w : World} (A : Option Addr → Nat → Act) (R : Option Addr → Nat → World → Prop) (h : c.wp P (AtEndR A R) a w) (hq : ∀ x n W, R x n W → Q' .normal (A x n) W) : c.wp P Q' a w :=
  Code.wp_mono (fun e a w h => by cases e <;> first | exact h.elim | (obtain ⟨x, n, h2, h3⟩ := h; subst h3; exact hq x n w h2)) h
theorem run_makeU (n : Nat) (h : n ≤ 281474976710656) (w : World) : (Instr.makeSlice 60 (.int .i64 0) (.int .i64 (n : Int))).run Tryz.prog w = .ok (.slice (some ⟨w.heap.size, 0, none⟩) 0 n) (w.alloc (.cells (madeCells #[.int .u8 0] n) 5)) := by
  obtain ⟨i, hi, hzz⟩ := Option.map_eq_some_iff.1 infoU0
  simp only [Prod.mk.injEq] at hzz
  obtain ⟨hz, hs, hb⟩ := hzz
  have hr := run_make (P := Tryz.prog) w 60 5 i (.int .u8 0) Tryz.underlying60 hi hz .i64 .i64 0 n (Int.le_refl _) (by omega) (by rw [hb]; omega) (by omega)
  rw [hs] at hr
  simp only [Nat.mul_one, Int.toNat_zero, Int.toNat_natCast] at hr
  exact hr
theorem OwnU.fresh (w : World) (base n b : Nat) (hbe : b = w.heap.size) (hb : base ≤ w.heap.size) (hn : n ≤ 281474976710656) : OwnU (w.alloc (.cells (madeCells #[.int .u8 0] n) 5)) base (.slice (some ⟨b, 0, none⟩) 0 n) [] := by
  subst hbe
  exact World.ownsRow_made (size := 1) w _ n hb (by unfold maxLen; omega) (by rw [Nat.mul_one]; simp [madeCells])
theorem OwnU.cells {w : World} {base : Nat} {v : Value} {l : List UInt8} (h : OwnU w base v l) (hl : l ≠ []) : ∃ g c, v = .slice (some ⟨g, 0, none⟩) l.length c ∧ l.length ≤ c ∧ g < w.heap.size ∧ base ≤ g ∧ ∀ (j : Nat) x, l[j]? = some x → w.cell? ⟨g, 0 + j, none⟩ = some (cU x) := by
  obtain ⟨_, h2⟩ := h
  rcases h2 with ⟨_, h0⟩ | ⟨g, cap, cur, hv, hg, hh, hc, hm, hs, ht⟩
  · exact absurd (List.length_eq_zero_iff.1 h0) hl
  · refine ⟨g, cap, hv, hc, (Array.getElem?_eq_some_iff.1 hh).1, hg, fun j x hj => ?_⟩
    rw [Nat.zero_add, cell_of_row _ _ _ _ _ _ hh]
    have hlt := (List.getElem?_eq_some_iff.1 hj).1
    have := congrArg (fun l => l[j]?) ht
    simp only [List.getElem?_take, Nat.mul_one, if_pos hlt, List.getElem?_map, hj, Option.map_some] at this
    rw [← this, Array.getElem?_toList]
/-- string(b). -/
theorem OwnU.str {w : World} {base : Nat} {v : Value} {l : List UInt8} (h : OwnU w base v l) : (convert 60 9 v).run Tryz.prog w = .ok (.string (bs l)) w := by
  by_cases h0 : l = []
  · subst h0
    obtain ⟨_, h2⟩ := h
    rcases h2 with ⟨rfl, _⟩ | ⟨g, cap, cur, rfl, hg, hh, hc, hm, hs, ht⟩
    · exact run_convert_bytes_nil w 60 5 Tryz.underlying60 Tryz.underlying5 0 0 9 Tryz.underlying9
    · exact run_convert_bytes_back w 60 9 5 ⟨g, 0, none⟩ cap [] Tryz.underlying60 Tryz.underlying5 Tryz.underlying9 (fun j hj => by simp at hj)
  · obtain ⟨g, c, rfl, hc, hg, _, hcell⟩ := h.cells h0
    exact run_convert_bytes_back w 60 9 5 ⟨g, 0, none⟩ c l Tryz.underlying60 Tryz.underlying5 Tryz.underlying9 (fun j hj => by rw [Addr.add_lit]; exact hcell j _ (List.getElem?_eq_getElem hj))
theorem run_indexA {n : Nat} (t : TypeId) (h : Tryz.prog.underlying t = some (.array n 5)) (x : Vector UInt8 n) (k : Nat) (hk : k < n) (w : World) : (Instr.index t (.agg (bC x).toArray) (.int .i64 (k : Int))).run Tryz.prog w = .ok (.int .u8 (x[k].toNat : Int)) w := by
  have e : (bC x)[k]? = some (.int .u8 (x[k].toNat : Int)) := bC_at x k hk
  obtain ⟨i, z, hi, _, hs, _⟩ := infoU
  simp [Instr.index, asIntOf, run_underlying h, hk, part, isAgg, run_underlying Tryz.underlying5, sizeOf, typeInfo, hi, hs, e]
theorem and15 : ∀ x : UInt8, bits .and .u8 (x.toNat : Int) 15 = ((x.toNat % 16 : Nat) : Int) := all_u8 (by decide +kernel)
theorem digit_fin : ∀ i : Fin 16, (⟨#[48, 49, 50, 51, 52, 53, 54, 55, 56, 57, 97, 98, 99, 100, 101, 102]⟩ : ByteArray)[i.val]'(i.isLt) = hexD i.val := by decide +kernel
theorem run_digit (q : Nat) (hq : q < 16) (w : World) : (Instr.index 9 (.string ⟨#[48, 49, 50, 51, 52, 53, 54, 55, 56, 57, 97, 98, 99, 100, 101, 102]⟩) (.int .u8 (q : Int))).run Tryz.prog w = .ok (.int .u8 ((hexD q).toNat : Int)) w := by
  rw [run_index_string w 9 _ .u8 _ Tryz.underlying9, dif_pos (by constructor <;> (first | omega | (show (q : Int) < 16; omega)))]
  have h := digit_fin ⟨q, hq⟩
  simp only [Int.toNat_natCast]
  rw [h]
set_option maxRecDepth 100000 in
set_option maxHeartbeats 2000000 in
theorem authorTextC (a : Aut) (w : World) : Calls Tryz.prog 48 #[.agg (bC a).toArray] w fun e w' => e = .returned (.string (bs (autT a))) ∧ Gr w w' := by
  have hmk : ∀ w, (Instr.makeSlice 60 (.int .i64 0) (.int .i64 32)).run Tryz.prog w = .ok (.slice (some ⟨w.heap.size, 0, none⟩) 0 32) (w.alloc (.cells (madeCells #[.int .u8 0] 32) 5)) := run_makeU 32 (by decide)
  have HF := Lib.hid (OwnU.fresh (w.alloc (.cells (bC a).toArray 35)) w.heap.size 32 (w.heap.size + 1) (by simp) (by simp) (by decide))
  have HG := Lib.hid (((Gr.refl w).alloc (.cells (bC a).toArray 35)).alloc (.cells (madeCells #[.int .u8 0] 32) 5))
  go_enter Tryz.func48, Tryz.ntmps48
  go_wp2_with fail
  go_loopw [3, 5, 8, 9, 10, 11, 12, 13, 14, 15, 16, 17, 18, 19, 20] (fun v _ i _ _ _ _ _ _ _ _ _ _ _ _ wr => ∃ k : Nat, k ≤ 16 ∧ i = .int .i64 k ∧ Hid (Gr w wr) ∧ Hid (OwnU wr w.heap.size v (hexT (a.toList.take k)))) (fun _ _ i _ _ _ _ _ _ _ _ _ _ _ _ _ => 16 - (intOf i).toNat)
  case atStart => exact ⟨0, Nat.zero_le _, rfl, HG.out, HF.out⟩
  case round =>
    obtain ⟨k, hk, rfl, hG, hO⟩ := hrel
    by_cases hlt : k < 16
    · have hk1 : (k : Int) < 16 := by omega
      have hk2 : (0 : Int) ≤ (k : Int) := by omega
      have hix := run_indexA 35 Tryz.underlying35 a k hlt
      have HT : Hid (hexT (a.toList.take k) ++ [hexD (a[k].toNat / 16), hexD (a[k].toNat % 16)] = hexT (a.toList.take (k + 1))) := (hexT_take a.toList k (by simpa using hlt)).symm
      have hand := and15 a[k]
      have hx := a[k].toNat_lt
      have HN : Hid ((hexT (a.toList.take k)).length + 2 = 2 * k + 2) := by show _ = _; rw [hexT_len, List.length_take]; simp; omega
      generalize hexT (a.toList.take k) = ds at *
      generalize a[k].toNat = x at *
      obtain ⟨q, hq, hq16, hqx⟩ : ∃ q : Nat, (x : Int) / 16 = (q : Int) ∧ q < 16 ∧ x / 16 = q := ⟨x / 16, by omega, by omega, rfl⟩
      obtain ⟨r, hr, hr16⟩ : ∃ r : Nat, x % 16 = r ∧ r < 16 := ⟨x % 16, rfl, by omega⟩
      rw [hr] at hand HT
      rw [hqx] at HT
      have hd1 := run_digit q hq16
      have hd2 := run_digit r hr16
      generalize hexD q = d1 at *
      generalize hexD r = d2 at *
      go_wp2_with fail
      apply wp_toR (R := fun x n W => Hid (Gr w W) ∧ Hid (OwnU W w.heap.size (.slice x (2 * k + 2) n) (ds ++ [d1, d2])))
      case h =>
        go_region_held_law (fun _ => True) (trivial)
          (first | (refine step_append_u8 rfl 19 rfl (.tmp 11) (.tmp 18) rfl w.heap.size u3 ds (by simp [Act.eval]) (hO.out.gr ((Gr.refl wr).drew.alloc _)) (.slice (some ⟨wr.heap.size, 0, none⟩) 2 2) [d1, d2] (by simp [Act.eval]) (OwnU.made (l := [d1, d2]) (heap_alloc_new wr.drew _) (by have := hG.out.size; omega) (by simp)) (2 * k + 2) HN.out (by omega) (by have := hG.out.size; simp; omega) ?_; intro a1 c1 w1 ho1 hg1))
        all_goals exact ⟨a1, c1, ⟨((hG.out.drew.alloc _).grown hg1 (fun q hq => (World.ownsRow.lt hO.out q hq).1)), ho1⟩, rfl⟩
      rintro x1 n1 W1 ⟨hG1, hO1⟩
      rw [HT.out] at hO1
      clear hd1 hd2 hix HT
      go_wp2_with fail
      go_roundw
      case rel => exact ⟨k + 1, by omega, by go_num, hG1.out, hO1.out⟩
      case measure => simp [intOf]; omega
    · have hk1 : ¬ (k : Int) < 16 := by omega
      have HO := Lib.hid hO.out.str
      have hcv : (convert 60 9 u3).run Tryz.prog wr = .ok (.string (bs (autT a))) wr := by
        have e : hexT (a.toList.take k) = autT a := by rw [List.take_of_length_le (by simp; omega)]; rfl
        rw [← e]; exact HO.out
      go_wp2_with fail
      go_ret
      exact ⟨rfl, hG.out⟩
end Go.Proofs.YteknmbijodbfoaaGreatDoor

namespace Go.Proofs.YteknmbijodbfoaaGreatDoor
open Go.RowKit

theorem hexN_nat (c : UInt8) : (hexN c).toNat = (hexV c).toNat ∧ (hexV c).toNat < 256 := by
  have := (show ∀ c : UInt8, (hexN c).toNat = (hexV c).toNat ∧ (hexV c).toNat < 256 from all_u8 (by decide +kernel)) c
  exact this
theorem badAt_stop (s : Str) (k : Nat) (hk : k < s.length) (h : (s.take k).all hexB = true) (hb : hexB (s.getD k 0) = false) : badAt s = k := by
  have e : s = s.take k ++ s.getD k 0 :: s.drop (k + 1) := by
    rw [List.getD_eq_getElem?_getD, List.getElem?_eq_getElem hk, Option.getD_some, ← List.drop_eq_getElem_cons hk, List.take_append_drop]
  unfold badAt
  rw [e, List.takeWhile_append_of_pos (fun a ha => List.all_eq_true.1 h a ha), List.takeWhile_cons, hb]
  simp; omega
theorem takeWhile_ge {p : UInt8 → Bool} : ∀ (k : Nat) (s : Str), k ≤ s.length → (s.take k).all p = true → k ≤ (s.takeWhile p).length
  | 0, _, _, _ => Nat.zero_le _
  | k + 1, [], h, _ => by simp at h
  | k + 1, c :: s, h, ha => by
    rw [List.take_succ_cons, List.all_cons, Bool.and_eq_true] at ha
    rw [List.takeWhile_cons, ha.1, if_pos rfl, List.length_cons]
    have := takeWhile_ge k s (by simpa using h) ha.2
    omega
/-- What ParseAuthor returns. -/
def paV (s : Str) : Value := .tuple #[.agg (bC (autOf s)).toArray, .int .i64 (autErr s).1, .int .i64 (autErr s).2]
theorem paV_err {s : Str} {a e : Int} (h : autErr s = (a, e)) (he : e ≠ 0) : paV s = .tuple #[.agg (bC zAut).toArray, .int .i64 a, .int .i64 e] := by
  have : autOf s = zAut := by unfold autOf; rw [h, if_neg he]
  unfold paV; rw [this, h]
theorem pa_bad {s : Str} {k : Nat} (hk : k < min s.length 32) (h : (s.take k).all hexB = true) (hb : hexB (s.getD k 0) = false) : paV s = .tuple #[.agg (bC zAut).toArray, .int .i64 k, .int .i64 6] := by
  have := badAt_stop s k (by omega) h hb
  exact paV_err (by unfold autErr; rw [if_pos (by omega), this]) (by decide)
theorem pa_short {s : Str} (hk : s.length < 32) (h : s.all hexB = true) : paV s = .tuple #[.agg (bC zAut).toArray, .int .i64 s.length, .int .i64 4] := by
  have : badAt s = s.length := by unfold badAt; rw [takeWhile_all h]
  exact paV_err (by unfold autErr; rw [if_neg (by omega), if_pos hk]) (by decide)
theorem pa_long {s : Str} {k : Nat} (hk32 : k = 32) (hk : 32 < s.length) (h : (s.take k).all hexB = true) : paV s = .tuple #[.agg (bC zAut).toArray, .int .i64 32, .int .i64 5] := by
  subst hk32
  have : 32 ≤ badAt s := takeWhile_ge 32 s (by omega) h
  exact paV_err (by unfold autErr; rw [if_neg (by omega), if_neg (by omega), if_pos hk]) (by decide)
theorem pa_ok {s : Str} {k : Nat} (hk32 : k = 32) (hk : s.length = 32) (h : s.all hexB = true) : paV s = .tuple #[.agg ((digTo 16 s k).map cU).toArray, .int .i64 0, .int .i64 0] := by
  subst hk32
  have h0 : (autErr s).2 = 0 := autErr_zero.2 ⟨hk, h⟩
  have h1 : autErr s = (0, 0) := by
    have : badAt s = 32 := by unfold badAt; rw [takeWhile_all h, hk]
    unfold autErr; rw [if_neg (by omega), if_neg (by omega), if_neg (by omega)]
  have h2 : bC (autOf s) = (digTo 16 s 32).map cU := by
    unfold autOf; rw [if_pos h0, digTo_all 16 s hk]
    unfold bC; rw [vecOf_toList (unhex_len 16 s hk)]; rfl
  unfold paV; rw [h1, h2]
theorem hexB_iff (c : UInt8) : hexB c = false ↔ hexV c < 0 := by unfold hexB; simp
theorem all_take_succ {p : UInt8 → Bool} (s : Str) (k : Nat) (hk : k < s.length) (h : (s.take k).all p = true) (hp : p (s.getD k 0) = true) : (s.take (k + 1)).all p = true := by
  rw [List.take_succ_eq_append_getElem hk, List.all_append, h]
  rw [List.getD_eq_getElem?_getD, List.getElem?_eq_getElem hk, Option.getD_some] at hp
  simp [hp]
theorem or_fin : ∀ (i : Fin 256) (j : Fin 16), bits .or .u8 (IntKind.u8.wrap ((i.val : Int) * 16)) (j.val : Int) = (((UInt8.ofNat i.val <<< 4) ||| UInt8.ofNat j.val).toNat : Int) := by decide +kernel
theorem or_u8 (x v : UInt8) (h : v.toNat < 16) : bits .or .u8 ((x.toNat : Int) * 16 % 256) (v.toNat : Int) = ((x <<< 4 ||| v).toNat : Int) := by
  have := or_fin ⟨x.toNat, x.toNat_lt⟩ ⟨v.toNat, h⟩
  rw [IntKind.wrap_u8] at this
  simpa using this
theorem map_putD (l : List UInt8) (i : Nat) (v : UInt8) : (putD l i v).map cU = (l.map cU).set (i / 2) (cU (l.getD (i / 2) 0 <<< 4 ||| v)) := by
  unfold putD; rw [List.map_set]
theorem Gr.setOwn {w wr : World} (hg : Gr w wr) {b o : Nat} (hb : w.heap.size ≤ b) (u : Value) : Gr w (wr.setCell ⟨b, o, none⟩ u) := Gr.of_grownBy (grown_new (grown_gr (row := none) hg) hb u)
theorem Gr.setsOwn {w wr : World} (hg : Gr w wr) {b : Nat} (hb : w.heap.size ≤ b) (l : List Value) (k : Nat) : Gr w (wr.setCells b k l) := Gr.of_grownBy (grown_sets hb l k wr (grown_gr (row := none) hg))
set_option maxRecDepth 100000 in
set_option maxHeartbeats 2000000 in
theorem parseAuthorC (s : ByteArray) (w : World) (hs : s.size ≤ 1000000) : Calls Tryz.prog 180 #[.string s] w fun e w' => e = .returned (paV (bl s)) ∧ Gr w w' := by
  have HG := Lib.hid ((Gr.refl w).alloc (.cells (bC zAut).toArray 35))
  have HB := Lib.hid (heap_alloc_new w (.cells (bC zAut).toArray 35))
  go_enter Tryz.func180, Tryz.ntmps180
  go_wp2_with fail
  go_loopw [5, 6, 10, 11, 12, 13, 14, 15, 16, 17, 18, 21, 22, 23, 24, 25, 26, 27, 28, 29, 30, 31, 32] (fun _ _ i _ _ _ _ _ _ _ _ _ _ _ _ _ _ _ _ _ _ _ _ wr => ∃ k : Nat, k ≤ min s.size 32 ∧ i = .int .i64 k ∧ Hid (((bl s).take k).all hexB = true) ∧ Hid (Gr w wr) ∧ Hid (wr.heap[w.heap.size]? = some (.cells ((digTo 16 (bl s) k).map cU).toArray 35 (0, 0)))) (fun _ _ i _ _ _ _ _ _ _ _ _ _ _ _ _ _ _ _ _ _ _ _ _ => 32 - (intOf i).toNat)
  case atStart => exact ⟨0, Nat.zero_le _, rfl, rfl, HG.out, HB.out⟩
  case round =>
    obtain ⟨k, hk, rfl, hA, hG, hB⟩ := hrel
    by_cases hlt : k < min s.size 32
    · have hks : k < s.size := by omega
      have hk1 : (k : Int) < min (s.size : Int) 32 := by omega
      have hk2 : (0 : Int) ≤ (k : Int) := by omega
      have hk3 : (k : Int) < (s.size : Int) := by omega
      have HI : Hid (∀ W, Calls Tryz.prog 201 #[.string ⟨#[48, 49, 50, 51, 52, 53, 54, 55, 56, 57, 97, 98, 99, 100, 101, 102]⟩, .int .u8 (s[k].toNat : Int)] W fun e w' => e = .returned (.int .i64 (hexV s[k])) ∧ w' = W) := fun W => by
        have h := Tryz.strings_IndexByte ⟨#[48, 49, 50, 51, 52, 53, 54, 55, 56, 57, 97, 98, 99, 100, 101, 102]⟩ (s[k].toNat : Int) W
        have e : ((s[k].toNat : Int)).toNat.toUInt8 = s[k] := by simp
        rw [e] at h; exact h
      have hgd : (bl s).getD k 0 = s[k] := by
        rw [List.getD_eq_getElem?_getD, List.getElem?_eq_getElem (by rw [bl_length]; exact hks)]; rfl
      have hl : ((digTo 16 (bl s) k).map cU).length = 16 := by rw [List.length_map, digTo_len]
      have hz := (Array.getElem?_eq_some_iff.1 hB.out).1
      by_cases hv : hexV s[k] < 0
      · have hr := hasRow_block hB.out 0 16 (by rw [hl]; decide)
        have hf := freeRow_block hB.out 0 16
        have HP := Lib.hid (pa_bad (s := bl s) (k := k) (by rw [bl_length]; exact hlt) hA.out (by rw [hgd, hexB_iff]; exact hv))
        have hb := Lib.hid (sets_whole (cs := bC zAut) hB.out (by rw [hl, bC_length]))
        have hg := Lib.hid (hG.out.setsOwn (b := w.heap.size) (Nat.le_refl _) (bC zAut) 0)
        clear hgd hl hA hB
        go_wp2_with (go_at_call 201; refine (HI.out _).mono ?_; rintro e w' ⟨rfl, rfl⟩)
        refine bodyPost_ret (results_cell_tmp2 (p := 2) (u1 := 3) (u2 := 4) rfl _ _ w.heap.size _ _ _ _ rfl hb.out Tryz.underlying35 rfl (by rw [List.size_toArray, bC_length]; kernel_rfl)) rfl ?_
        exact ⟨by rw [HP.out]; rfl, hg.out⟩
      · have hb1 : hexB s[k] = true := by
          cases hb : hexB s[k] with
          | true => rfl
          | false => exact absurd ((hexB_iff _).1 hb) hv
        have HA1 := Lib.hid (all_take_succ (bl s) k (by rw [bl_length]; exact hks) hA.out (by rw [hgd]; exact hb1))
        obtain ⟨_, hv16, hvn⟩ := hex_back s[k] hb1
        have hD : Hid ((digTo 16 (bl s) (k + 1)).map cU = ((digTo 16 (bl s) k).map cU).set (k / 2) (cU ((digTo 16 (bl s) k).getD (k / 2) 0 <<< 4 ||| hexN s[k]))) := by
          show _ = _
          rw [digTo, map_putD, hgd]
        have hj : k / 2 < (digTo 16 (bl s) k).length := by rw [digTo_len]; omega
        have c0 : wr.cell? ⟨w.heap.size, k / 2, none⟩ = some (.int .u8 (((digTo 16 (bl s) k).getD (k / 2) 0).toNat : Int)) := by
          rw [cell_block hB.out, List.getElem?_map, List.getElem?_eq_getElem hj, List.getD_eq_getElem?_getD, List.getElem?_eq_getElem hj]; rfl
        have f0 := free_block hB.out (k / 2)
        have hor := or_u8 ((digTo 16 (bl s) k).getD (k / 2) 0) (hexN s[k]) (by rw [hvn]; exact hv16)
        generalize (digTo 16 (bl s) k).getD (k / 2) 0 = x at *
        obtain ⟨n, hn, hnn⟩ : ∃ n : Nat, hexV s[k] = (n : Int) ∧ (hexN s[k]).toNat = n := ⟨(hexV s[k]).toNat, by omega, hvn⟩
        rw [hnn] at hor
        rw [hn] at HI
        have hw : IntKind.u8.wrap (n : Int) = (n : Int) := by rw [IntKind.wrap_u8]; omega
        have hn0 : ¬ (n : Int) < 0 := by omega
        have hdiv : ((k : Int) / 2).toNat = k / 2 := by omega
        generalize x <<< 4 ||| hexN s[k] = y at *
        have HB1 := Lib.hid (heap_setCell_same wr w.heap.size (k / 2) _ _ (cU y) hB.out)
        have HG1 := Lib.hid (hG.out.setOwn (b := w.heap.size) (o := k / 2) (Nat.le_refl _) (cU y))
        clear hgd hl hv hv16 hvn hn hnn hb1 hA hB hG
        go_wp2_with (go_at_call 201; refine (HI.out _).mono ?_; rintro e w' ⟨rfl, rfl⟩)
        go_roundw
        case rel => exact ⟨k + 1, by omega, by go_num, HA1.out, HG1.out, by show _ = _; rw [hD.out]; simpa [cU] using HB1.out⟩
        case measure => simp [intOf]; omega
    · have hk1 : ¬ (k : Int) < min (s.size : Int) 32 := by omega
      have hl : ((digTo 16 (bl s) k).map cU).length = 16 := by rw [List.length_map, digTo_len]
      have hr := hasRow_block hB.out 0 16 (by rw [hl]; decide)
      have hf := freeRow_block hB.out 0 16
      have hb := Lib.hid (sets_whole (cs := bC zAut) hB.out (by rw [hl, bC_length]))
      have hg := Lib.hid (hG.out.setsOwn (b := w.heap.size) (Nat.le_refl _) (bC zAut) 0)
      have hsz := bl_length s
      by_cases h1 : s.size < 32
      · have hkk : k = s.size := by omega
        subst hkk
        have HP := Lib.hid (pa_short (s := bl s) (by omega) (by have := hA.out; rwa [List.take_of_length_le (by omega)] at this))
        rw [hsz] at HP
        have h2 : (s.size : Int) < 32 := by omega
        clear hl hA hB hsz
        go_wp2_with fail
        refine bodyPost_ret (results_cell_tmp2 (p := 2) (u1 := 3) (u2 := 4) rfl _ _ w.heap.size _ _ _ _ rfl hb.out Tryz.underlying35 rfl (by rw [List.size_toArray, bC_length]; kernel_rfl)) rfl ?_
        exact ⟨by rw [HP.out]; rfl, hg.out⟩
      · have hkk : k = 32 := by omega
        have h2 : ¬ (s.size : Int) < 32 := by omega
        by_cases h3 : 32 < s.size
        · have HP := Lib.hid (pa_long (s := bl s) hkk (by omega) hA.out)
          have h4 : 32 < (s.size : Int) := by omega
          clear hl hA hB hsz hkk hk hlt HG HB hG
          go_wp2_with fail
          refine bodyPost_ret (results_cell_tmp2 (p := 2) (u1 := 3) (u2 := 4) rfl _ _ w.heap.size _ _ _ _ rfl hb.out Tryz.underlying35 rfl (by rw [List.size_toArray, bC_length]; kernel_rfl)) rfl ?_
          exact ⟨by rw [HP.out]; rfl, hg.out⟩
        · have HP := Lib.hid (pa_ok (s := bl s) hkk (by omega) (by have := hA.out; rwa [List.take_of_length_le (by omega)] at this))
          have h4 : ¬ 32 < (s.size : Int) := by omega
          have hq := (rowAt_block hB.out 0 16 (by rw [hl]; decide)).trans (rowOf_all _ _ hl)
          have h1' : oneB ((digTo 16 (bl s) k).map cU) = true := List.all_eq_true.2 fun v hv => by obtain ⟨b, _, rfl⟩ := List.mem_map.1 hv; rfl
          have hb' := Lib.hid (sets_whole (cs := (digTo 16 (bl s) k).map cU) hB.out rfl)
          have hg' := Lib.hid (hG.out.setsOwn (b := w.heap.size) (Nat.le_refl _) ((digTo 16 (bl s) k).map cU) 0)
          clear hA hB hsz hkk hk hlt HG HB hG
          generalize (digTo 16 (bl s) k).map cU = cs at *
          go_wp2_with fail
          refine bodyPost_ret (results_cell_tmp2 (p := 2) (u1 := 3) (u2 := 4) rfl _ _ w.heap.size _ _ _ _ rfl hb'.out Tryz.underlying35 rfl (by rw [List.size_toArray, hl]; kernel_rfl)) rfl ?_
          exact ⟨by rw [HP.out]; rfl, hg'.out⟩
end Go.Proofs.YteknmbijodbfoaaGreatDoor

namespace Go.Proofs.YteknmbijodbfoaaGreatDoor
open Go.RowKit

theorem add_fin : ∀ (i : Fin 256) (j : Fin 16), ((i.val : Int) * (16 : Int) % (256 : Int) + (j.val : Int)) % (256 : Int) = (((UInt8.ofNat i.val <<< 4) ||| UInt8.ofNat j.val).toNat : Int) := by decide +kernel
theorem add_u8 (x v : UInt8) (h : v.toNat < 16) : ((x.toNat : Int) * (16 : Int) % (256 : Int) + (v.toNat : Int)) % (256 : Int) = ((x <<< 4 ||| v).toNat : Int) := by
  have := add_fin ⟨x.toNat, x.toNat_lt⟩ ⟨v.toNat, h⟩
  simpa using this
end Go.Proofs.YteknmbijodbfoaaGreatDoor

namespace Go.Proofs.YteknmbijodbfoaaGreatDoor
open Go.RowKit

@[go_sem ↓ high] theorem zeroAutV (w : World) : Sem.run Tryz.prog (zeroValue 35) w = .ok (.agg (bC zAut).toArray) w := by kernel_rfl
@[go_sem ↓ high] theorem zeroA16V (w : World) : Sem.run Tryz.prog (zeroValue 29) w = .ok (.agg (bC zAut).toArray) w := by kernel_rfl
@[go_sem ↓ high] theorem st_aut (w : World) (t : TypeId) (b : Nat) (x y : Aut) (hb : b = w.heap.size) : (w.alloc (.cells (bC x).toArray t)).setCells b 0 (bC y) = w.alloc (.cells (bC y).toArray t) := by
  have e := setCells_mid w t b hb [] (bC y) [] (bC x) (by rw [bC_length, bC_length])
  simpa using e
/-- An identity in a block. -/
def AutB (W : World) (b : Nat) (t : TypeId) (x : Aut) : Prop := W.heap[b]? = some (.cells (bC x).toArray t (0, 0))
theorem AutB.gr {W W' : World} {b : Nat} {t : TypeId} {x : Aut} (h : AutB W b t x) (hg : Gr W W') : AutB W' b t x := (hg.block (Array.getElem?_eq_some_iff.1 h).1).trans h
theorem AutB.rows {W : World} {b : Nat} {t : TypeId} {x : Aut} (h : AutB W b t x) : hasRow W ⟨b, 0, none⟩ 16 = true ∧ rowAt W ⟨b, 0, none⟩ 16 = bC x ∧ b < W.heap.size :=
  ⟨hasRow_block h 0 16 (by rw [bC_length]; decide), (rowAt_block h 0 16 (by rw [bC_length]; decide)).trans (rowOf_all _ _ (bC_length x)), (Array.getElem?_eq_some_iff.1 h).1⟩
end Go.Proofs.YteknmbijodbfoaaGreatDoor

namespace Go.Proofs.YteknmbijodbfoaaGreatDoor
open Go.RowKit

/-- v is a slice of the bytes l. -/
def ByAt (w : World) (g o : Nat) (l : List UInt8) : Prop := g < w.heap.size ∧ ∀ (j : Nat) x, l[j]? = some x → w.cell? ⟨g, o + j, none⟩ = some (cU x)
theorem ByAt.gr {w w' : World} {g o : Nat} {l : List UInt8} (h : ByAt w g o l) (hg : Gr w w') : ByAt w' g o l := ⟨Nat.lt_of_lt_of_le h.1 hg.size, fun j x hj => (hg.cell h.1).trans (h.2 j x hj)⟩
theorem ByAt.vec {n : Nat} {w : World} {g : Nat} {t : TypeId} {x : Vector UInt8 n} (h : w.heap[g]? = some (.cells (bC x).toArray t (0, 0))) : ByAt w g 0 x.toList :=
  ⟨(Array.getElem?_eq_some_iff.1 h).1, fun j y hj => by
    rw [Nat.zero_add, cell_block h]; unfold bC; rw [List.getElem?_map, hj]; rfl⟩
set_option maxRecDepth 100000 in
set_option maxHeartbeats 2000000 in
theorem hexC (g o c : Nat) (l : List UInt8) (w : World) (hl : l.length ≤ 1000) (h : ByAt w g o l) : Calls Tryz.prog 131 #[.slice (some ⟨g, o, none⟩) l.length c] w fun e w' => e = .returned (.string (bs (hexT l))) ∧ Gr w w' := by
  have hmk : ∀ w, (Instr.makeSlice 60 (.int .i64 0) (.int .i64 (2 * (l.length : Int)))).run Tryz.prog w = .ok (.slice (some ⟨w.heap.size, 0, none⟩) 0 (2 * l.length)) (w.alloc (.cells (madeCells #[.int .u8 0] (2 * l.length)) 5)) := by
    have h := run_makeU (2 * l.length) (by omega)
    rw [Int.natCast_mul] at h; exact h
  have HF := Lib.hid (OwnU.fresh w w.heap.size (2 * l.length) w.heap.size rfl (Nat.le_refl _) (by omega))
  have HG := Lib.hid ((Gr.refl w).alloc (.cells (madeCells #[.int .u8 0] (2 * l.length)) 5))
  have HB := Lib.hid h
  have HL : Hid (∀ k (hk : k < l.length), l[k]? = some l[k]) := fun k hk => List.getElem?_eq_getElem hk
  have HE : Hid (hexT (l.take l.length) = hexT l) := by show _ = _; rw [List.take_length]
  have HT : Hid (∀ k (hk : k < l.length), hexT (l.take (k + 1)) = hexT (l.take k) ++ [hexD (l[k].toNat / 16), hexD (l[k].toNat % 16)] ∧ (hexT (l.take k)).length = 2 * k) := fun k hk => ⟨hexT_take l k hk, by rw [hexT_len, List.length_take]; omega⟩
  clear h
  have hn : ∃ n, l.length = n := ⟨_, rfl⟩
  obtain ⟨n, hn⟩ := hn
  have HNN := Lib.hid hn
  rw [hn] at hmk hl HF HG HE
  rw [hn]
  clear hn
  go_enter Tryz.func131, Tryz.ntmps131
  go_wp2_with fail
  go_loopw [3, 5, 12, 13, 14, 15, 16, 17, 18, 19, 20, 21, 22, 23, 24, 25] (fun v _ i _ _ _ _ _ _ _ _ _ _ _ _ _ wr => ∃ k : Nat, k ≤ n ∧ i = .int .i64 k ∧ Hid (Gr w wr) ∧ Hid (OwnU wr w.heap.size v (hexT (l.take k)))) (fun _ _ i _ _ _ _ _ _ _ _ _ _ _ _ _ _ => n - (intOf i).toNat)
  case atStart => exact ⟨0, Nat.zero_le _, rfl, HG.out, HF.out⟩
  case round =>
    obtain ⟨k, hk, rfl, hG, hO⟩ := hrel
    by_cases hlt : k < n
    · have hk1 : (k : Int) < (n : Int) := by omega
      have hk2 : (0 : Int) ≤ (k : Int) := by omega
      have hlk : k < l.length := by have := HNN.out; omega
      obtain ⟨ht, hlen⟩ := HT.out k hlk
      have c0 := (hG.out.cell HB.out.1).trans (HB.out.2 k _ (HL.out k hlk))
      unfold cU at c0
      have hand := and15 l[k]
      have hx := l[k].toNat_lt
      have HT1 : Hid (hexT (l.take k) ++ [hexD (l[k].toNat / 16), hexD (l[k].toNat % 16)] = hexT (l.take (k + 1))) := ht.symm
      have HN : Hid ((hexT (l.take k)).length + 2 = 2 * k + 2) := by show _ = _; rw [hlen]
      clear ht hlen
      generalize hexT (l.take k) = ds at *
      generalize l[k].toNat = x at *
      obtain ⟨q, hq, hq16, hqx⟩ : ∃ q : Nat, (x : Int) / 16 = (q : Int) ∧ q < 16 ∧ x / 16 = q := ⟨x / 16, by omega, by omega, rfl⟩
      obtain ⟨r, hr, hr16⟩ : ∃ r : Nat, x % 16 = r ∧ r < 16 := ⟨x % 16, rfl, by omega⟩
      rw [hr] at hand HT1
      rw [hqx] at HT1
      have hd1 := run_digit q hq16
      have hd2 := run_digit r hr16
      generalize hexD q = d1 at *
      generalize hexD r = d2 at *
      have hz := Nat.lt_of_lt_of_le HB.out.1 hG.out.size
      go_wp2_with fail
      apply wp_toR (R := fun x n W => Hid (Gr w W) ∧ Hid (OwnU W w.heap.size (.slice x (2 * k + 2) n) (ds ++ [d1, d2])))
      case h =>
        go_region_held_law (fun _ => True) (trivial)
          (first | (refine step_append_u8 rfl 24 rfl (.tmp 16) (.tmp 23) rfl w.heap.size u3 ds (by simp [Act.eval]) (hO.out.gr ((Gr.refl wr).drew.alloc _)) (.slice (some ⟨wr.heap.size, 0, none⟩) 2 2) [d1, d2] (by simp [Act.eval]) (OwnU.made (l := [d1, d2]) (heap_alloc_new wr.drew _) (by have := hG.out.size; omega) (by simp)) (2 * k + 2) HN.out (by omega) (by have := hG.out.size; simp; omega) ?_; intro a1 c1 w1 ho1 hg1))
        all_goals exact ⟨a1, c1, ⟨((hG.out.drew.alloc _).grown hg1 (fun q hq => (World.ownsRow.lt hO.out q hq).1)), ho1⟩, rfl⟩
      rintro x1 n1 W1 ⟨hG1, hO1⟩
      rw [HT1.out] at hO1
      clear hd1 hd2 HT1
      go_wp2_with fail
      go_roundw
      case rel => exact ⟨k + 1, by omega, by go_num, hG1.out, hO1.out⟩
      case measure => simp [intOf]; omega
    · have hk1 : ¬ (k : Int) < (n : Int) := by omega
      have hkn : k = n := by omega
      have hcv : (convert 60 9 u3).run Tryz.prog wr = .ok (.string (bs (hexT l))) wr := by
        have h := hO.out.str
        rw [hkn, HE.out] at h; exact h
      clear hkn
      go_wp2_with fail
      go_ret
      exact ⟨rfl, hG.out⟩
theorem ByAt.row {w : World} {g o n : Nat} {l : List UInt8} (h : ByAt w g o l) (hn : l.length = n) : hasRow w ⟨g, o, none⟩ n = true ∧ rowAt w ⟨g, o, none⟩ n = l.map cU := by
  subst hn
  have hc : ∀ i (hi : i < l.length), w.cell? (Addr.add ⟨g, o, none⟩ i) = some (cU l[i]) := fun i hi => by rw [Addr.add_lit]; exact h.2 i _ (List.getElem?_eq_getElem hi)
  refine ⟨hasRow_iff.2 fun i hi => by rw [hc i hi]; rfl, ?_⟩
  apply List.ext_getElem?
  intro i
  simp only [rowAt, List.getElem?_map]
  by_cases hi : i < l.length
  · rw [List.getElem?_range hi, List.getElem?_eq_getElem hi, Option.map_some, Option.map_some, hc i hi]; rfl
  · rw [List.getElem?_eq_none (by simp; omega), List.getElem?_eq_none (by omega)]; rfl
/-- string(b). -/
theorem ByAt.str {w : World} {g o n : Nat} {l : List UInt8} (h : ByAt w g o l) (c : Nat) (hn : l.length = n) : (convert 60 9 (.slice (some ⟨g, o, none⟩) n c)).run Tryz.prog w = .ok (.string (bs l)) w := by
  subst hn
  exact run_convert_bytes_back w 60 9 5 ⟨g, o, none⟩ c l Tryz.underlying60 Tryz.underlying5 Tryz.underlying9 (fun j hj => by rw [Addr.add_lit]; exact h.2 j _ (List.getElem?_eq_getElem hj))
/-- []byte(s). -/
theorem conv_bytesU (s : ByteArray) (n : Nat) (hn : s.size = n) (w : World) : ∃ c W', (convert 9 60 (.string s)).run Tryz.prog w = .ok (.slice (some ⟨w.heap.size, 0, none⟩) n c) W' ∧ Gr w W' ∧ ByAt W' w.heap.size 0 (bl s) ∧ n ≤ c := by
  subst hn
  have h := run_bytes_of_string w 9 60 5 s Tryz.underlying9 Tryz.underlying60 Tryz.underlying5
  refine ⟨_, _, h, ((Gr.refl w).drew).alloc _, ⟨by simp, fun j x hj => ?_⟩, grownCap_ge _ _ _ _⟩
  have hj' := (List.getElem?_eq_some_iff.1 hj).1
  have hb : (w.drew.alloc (.cells (bytesRow s (grownCap w s.size 0 5)) 5 ((bytesRow s (grownCap w s.size 0 5)).size, (bytesRow s (grownCap w s.size 0 5)).size + 1))).heap[w.heap.size]? = some (.cells (bytesRow s (grownCap w s.size 0 5)).toList.toArray 5 ((bytesRow s (grownCap w s.size 0 5)).size, (bytesRow s (grownCap w s.size 0 5)).size + 1)) := heap_alloc_new w.drew _
  rw [Nat.zero_add, cell_block hb, Array.getElem?_toList]
  unfold bytesRow
  have hs : j < s.data.size := by have e : s.data.size = (bl s).length := by simp [bl]
                                  rw [e]; exact hj'
  rw [Array.getElem?_append_left (by simpa using hs), Array.getElem?_map, Array.getElem?_eq_getElem hs]
  have hx : (bl s)[j]? = s.data[j]? := by unfold bl; rw [Array.getElem?_toList]
  rw [hx, Array.getElem?_eq_getElem hs] at hj
  rw [← Option.some.inj hj]; rfl
theorem hexT32 (i : Id) : (hexT i.toList).length = 64 := by rw [hexT_len]; simp
def hexId (i : Id) : Vector UInt8 64 := vecOf 64 (hexT i.toList)
theorem hexId_list (i : Id) : (hexId i).toList = hexT i.toList := vecOf_toList (hexT32 i)
def z64 : Vector UInt8 64 := Vector.replicate 64 0
@[go_sem] theorem agg64 : aggB Tryz.prog 139 = true := by kernel_rfl
@[go_sem] theorem cells64 : Tryz.prog.cellsOf 139 = 64 := by kernel_rfl
@[go_sem ↓ high] theorem zero64V (w : World) : Sem.run Tryz.prog (zeroValue 139) w = .ok (.agg (bC z64).toArray) w := by kernel_rfl
@[go_sem ↓ high] theorem st_v64 (w : World) (t : TypeId) (b : Nat) (x y : Vector UInt8 64) (hb : b = w.heap.size) : (w.alloc (.cells (bC x).toArray t)).setCells b 0 (bC y) = w.alloc (.cells (bC y).toArray t) := by
  have e := setCells_mid w t b hb [] (bC y) [] (bC x) (by rw [bC_length, bC_length])
  simpa using e
theorem run_arr64 (a : Addr) (l c : Nat) (h : 64 ≤ l) (w : World) : (Instr.arrayAt 139 (.slice (some a) l c)).run Tryz.prog w = .ok (.pointer (some a)) w := by
  simp [Instr.arrayAt, run_underlying Tryz.underlying139]
  omega
set_option maxRecDepth 100000 in
set_option maxHeartbeats 2000000 in
theorem digitsC (i : Id) (w : World) : Calls Tryz.prog 100 #[.agg (bC i).toArray] w fun e w' => e = .returned (.agg (bC (hexId i)).toArray) ∧ Gr w w' := by
  have g0 := ((Gr.refl w).alloc (.cells (bC i).toArray 39)).alloc (.cells (bC z64).toArray 139)
  have HB := Lib.hid (heap_alloc2_new w (.cells (bC i).toArray 39) (.cells (bC z64).toArray 139))
  have HX := Lib.hid (hexC w.heap.size 0 32 i.toList _ (by simp) (ByAt.vec (heap_alloc2_old w (.cells (bC i).toArray 39) (.cells (bC z64).toArray 139))))
  have e32 : i.toList.length = 32 := by simp
  rw [e32] at HX
  have HS : Hid ((bs (hexT i.toList)).size = 64) := by show _ = _; show (hexT i.toList).toArray.size = 64; rw [List.size_toArray, hexT32]
  have HL := Lib.hid (hexId_list i)
  have G0 := Lib.hid g0
  clear e32 g0
  go_enter Tryz.func100, Tryz.ntmps100
  go_wp2_with fail
  refine HX.out.mono ?_
  rintro e w1 ⟨rfl, hg1⟩
  have B1 := Lib.hid ((hg1.block (b := w.heap.size + 1) (by simp)).trans HB.out)
  have G1 := Lib.hid (G0.out.trans hg1)
  obtain ⟨c, W2, hcv, hg2, hby, hc⟩ := conv_bytesU (bs (hexT i.toList)) 64 HS.out w1
  rw [bl_bs] at hby
  obtain ⟨r1, r2⟩ := hby.row (n := 64) (hexT32 i)
  have hv : bC (hexId i) = (hexT i.toList).map cU := by unfold bC; rw [HL.out]; rfl
  rw [← hv] at r2
  have harr := run_arr64 ⟨w1.heap.size, 0, none⟩ 64 c (Nat.le_refl _)
  have b2 := (hg2.block (b := w.heap.size + 1) (Array.getElem?_eq_some_iff.1 B1.out).1).trans B1.out
  have u1 := hasRow_block b2 0 64 (by rw [bC_length]; decide)
  have f1 := freeRow_block b2 0 64
  have B2 := Lib.hid (sets_whole (cs := bC (hexId i)) b2 (by rw [bC_length, bC_length]))
  have G2 := Lib.hid ((G1.out.trans hg2).setsOwn (b := w.heap.size + 1) (by omega) (bC (hexId i)) 0)
  generalize bs (hexT i.toList) = s at *
  generalize hxe : hexId i = x at *
  have HXE := Lib.hid hxe
  clear hxe
  clear hv b2 hby hg1 hg2 HX HB G0
  go_wp2_with fail
  refine bodyPost_ret (results_cell_row rfl _ _ (w.heap.size + 1) _ _ _ _ rfl B2.out Tryz.underlying139 rfl (by rw [List.size_toArray, bC_length]; kernel_rfl)) rfl ?_
  exact ⟨by rw [HXE.out], G2.out⟩
set_option maxRecDepth 100000 in
set_option maxHeartbeats 2000000 in
theorem midPrintC (i : Id) (w : World) : Calls Tryz.prog 77 #[.agg (bC i).toArray] w fun e w' => e = .returned (.string (bs (midT i))) ∧ Gr w w' := by
  have g0 := (Gr.refl w).alloc (.cells (bC i).toArray 39)
  have HD := Lib.hid (digitsC i (w.alloc (.cells (bC i).toArray 39)))
  have HL := Lib.hid (hexId_list i)
  have G0 := Lib.hid g0
  clear g0
  have HM : Hid (⟨#[60]⟩ ++ bs (hexId i).toList ++ ⟨#[64, 104, 97, 115, 104, 62]⟩ = bs (midT i)) := by
    show _ = _
    rw [HL.out, show (⟨#[60]⟩ : ByteArray) = bs [60] from rfl, show (⟨#[64, 104, 97, 115, 104, 62]⟩ : ByteArray) = bs midTail from rfl, bs_app, bs_app]
    rfl
  generalize hexId i = x at *
  have hsz : (bs x.toList).size = 64 := by show x.toList.toArray.size = 64; simp
  go_enter Tryz.func77, Tryz.ntmps77
  go_wp2_with fail
  refine HD.out.mono ?_
  rintro e w1 ⟨rfl, hg1⟩
  have G1 := Lib.hid (G0.out.trans hg1)
  have g2 := (Gr.refl w1).alloc (.cells (bC x).toArray 139)
  have hby : ByAt (w1.alloc (.cells (bC x).toArray 139)) w1.heap.size 0 x.toList := ByAt.vec (heap_alloc_new w1 _)
  have hcv := hby.str (n := 64) 64 (by simp)
  have G2 := Lib.hid (G1.out.trans g2)
  clear hg1 G1 g2 hby G0 HD
  go_wp2_with fail
  go_ret
  exact ⟨by rw [HM.out]; rfl, G2.out⟩
end Go.Proofs.YteknmbijodbfoaaGreatDoor

namespace Go.Proofs.YteknmbijodbfoaaGreatDoor
open Go.RowKit

theorem modeS_true {c : Cm} (h : c.moderated = true) : modeS c = ⟨#[109, 111, 100, 101, 114, 97, 116, 101, 100, 32]⟩ ++ bs (Lib.join ((c.mods.map fun a => bs (autT a)).map bl) (bl ⟨#[44]⟩)) := by
  unfold modeS
  rw [if_pos h, List.map_map]
  rfl
theorem autJoin_len (l : List Aut) : (Lib.join ((l.map fun a => bs (autT a)).map bl) (bl ⟨#[44]⟩)).length ≤ 33 * l.length := by
  induction l with
  | nil => simp [Lib.join]
  | cons a l ih =>
    cases l with
    | nil => rw [List.map_cons, List.map_cons, List.map_nil, List.map_nil, Lib.join_one, bl_bs, autT_len]; simp
    | cons b l =>
      rw [List.map_cons, List.map_cons, List.map_cons, List.map_cons, join_cons2, ← List.map_cons, ← List.map_cons (f := fun a => bs (autT a)), List.length_append, List.length_append, bl_bs, autT_len]
      have e : (bl (⟨#[44]⟩ : ByteArray)).length = 1 := rfl
      simp only [List.length_cons] at ih ⊢
      omega
end Go.Proofs.YteknmbijodbfoaaGreatDoor

import Derived.Test.YtalommgkigacpaaDoorRefW
import Derived.Test.YtalommgkigacpaaDoorRefEnc
/- A piece that is copied by append: what string(b) reads of it, now and later. -/
namespace Go.Proofs.YtalommgkigacpaaDoor
open Go.RowKit

theorem conv_zero (w : World) (p : Option Addr) (c : Nat) : (convert 38 9 (.slice p 0 c)).run Tryd.prog w = .ok (.string ByteArray.empty) w := by
  rw [run_convert_bytes_string w 38 9 5 _ 0 c Tryd.underlying38 Tryd.underlying5 Tryd.underlying9]
  cases p <;> simp [Conv.bytesToString, loadCells, loadCellsFrom]

theorem bytes_nums (w : World) (b : Nat) (off : Nat) : ∀ m, (∀ j, j < m → ∃ c : Int, w.cell? ⟨b, off + j, none⟩ = some (.int .u8 c)) →
    ∃ xs : List Int, xs.length = m ∧ ∀ j u, (xs.map (Value.int .u8))[j]? = some u → w.cell? ((⟨b, off, none⟩ : Addr).add j) = some u := by
  intro m
  induction m with
  | zero => intro _; exact ⟨[], rfl, by simp⟩
  | succ m ih =>
    intro h
    obtain ⟨xs, hl, hx⟩ := ih (fun j hj => h j (by omega))
    obtain ⟨c, hc⟩ := h m (by omega)
    refine ⟨xs ++ [c], by simp [hl], ?_⟩
    intro j u hu
    by_cases hj : j < m
    · exact hx j u (by rw [← hu, List.map_append, List.getElem?_append_left (by simp [hl, hj])])
    · have hj2 : j < m + 1 := by
        have := (List.getElem?_eq_some_iff.1 hu).1
        simpa [hl] using this
      obtain rfl : j = m := by omega
      subst hl
      simp at hu
      subst hu
      rw [show (⟨b, off, none⟩ : Addr).add xs.length = ⟨b, off + xs.length, none⟩ by unfold Addr.add; split <;> simp_all]
      exact hc

/-- What the append hands on. -/
def ChunkAt (wr : World) (m : Nat) (r : Result Value) : Prop :=
  ∃ (t : ByteArray) (v' : Value) (W' : World), r = .ok v' W' ∧ t.size = m ∧ Gr wr W' ∧ ∀ W'', Gr W' W'' → (convert 38 9 v').run Tryd.prog W'' = .ok (.string t) W''

theorem chunk_run (w wr : World) (hG : Gr w wr) (a2 : Option Addr) (l2 cp2 m : Nat) (hby : BytesIn w a2 l2) (hm : m ≤ l2) (h40 : m ≤ 40) :
    ChunkAt wr m ((Builtin.append_ #[38, 38] 38 #[.slice (some ⟨wr.heap.size, 0, none⟩) 0 0, .slice a2 m cp2]).run Tryd.prog (wr.alloc (.cells #[] 5)).drew) := by
  obtain ⟨i0, hi, hz0, hz1, hz2⟩ := info_parts infoByte
  have hG' : Gr wr (wr.alloc (.cells #[] 5)).drew := ((Gr.refl wr).alloc _).drew
  by_cases h0 : m = 0
  · subst h0
    refine ⟨ByteArray.empty, .slice (some ⟨wr.heap.size, 0, none⟩) 0 0, _, ?_, rfl, hG', fun W'' _ => conv_zero W'' _ _⟩
    cases a2 <;> simp [Builtin.append_, run_underlying Tryd.underlying38, sizeOf, typeInfo, hi, Builtin.lenOf, Builtin.firstCells, storeCells, loadCells, loadCellsFrom]
  · obtain ⟨blk, off, rfl, hblk, _⟩ := hby 0 (by omega)
    have hsz := hG.size
    have hcells : ∀ j, j < m → ∃ c : Int, ((wr.alloc (.cells #[] 5)).drew).cell? ⟨blk, off + j, none⟩ = some (.int .u8 c) := by
      intro j hj
      obtain ⟨b1, o1, he, _, c, _, _, hc⟩ := hby j (by omega)
      cases he
      refine ⟨c, ?_⟩
      rw [((hG.alloc _).drew).cell hblk]
      exact hc
    obtain ⟨xs, hl, hx⟩ := bytes_nums _ _ _ _ hcells
    have hown : ((wr.alloc (.cells #[] 5)).drew).ownsRow wr.heap.size 5 1 (.slice (some ⟨wr.heap.size, 0, none⟩) 0 0) 0 [] :=
      World.ownsRow_lit wr #[] 0 (Nat.le_refl _) (by decide) rfl
    obtain ⟨v', W', hr, ho, hg, _, _⟩ := run_append_own_at _ wr.heap.size 38 38 5 i0 (.int .u8 0) 1 1 Tryd.underlying38 hi hz0 hz1 hz2 rfl (by decide) _ _ _ hown ⟨blk, off, none⟩ m cp2 (xs.map (Value.int .u8)) (by simp [hl]) hx (by simp [Value.oneCell']) (by unfold maxLen; omega) (by omega) (by simp)
    have hgr : Gr wr W' := hG'.grown hg (fun k hk => by simp [Value.ownBlock] at hk; omega)
    have hB : Bytes W' wr.heap.size v' xs := by
      unfold Bytes; rw [hl]
      simpa using ho
    refine ⟨strOfNums xs, v', W', hr, by rw [strOfNums_size, hl], hgr, fun W'' h'' => conv_own W'' _ _ _ (hB.gr h'') ?_⟩
    intro e; subst e; simp at hl; omega

/-- What Write returns, and what is kept. -/
def wWant (p t : ByteArray) : ByteArray := if errOf (bl (p ++ t)) = 0 then p ++ t else if errOf (bl (p ++ t)) = 23 then (p ++ t).extract 0 (atOf 0 (bl (p ++ t))) else ⟨#[]⟩
def wRest (p t : ByteArray) : ByteArray := if errOf (bl (p ++ t)) = 0 then ⟨#[]⟩ else if errOf (bl (p ++ t)) = 23 then (p ++ t).extract (atOf 0 (bl (p ++ t))) (p.size + t.size) else p
def wErr (p t : ByteArray) : Int := if errOf (bl (p ++ t)) = 0 then 0 else if errOf (bl (p ++ t)) = 23 then 0 else errOf (bl (p ++ t))

theorem at_in (p t : ByteArray) : atOf 0 (bl (p ++ t)) ≤ p.size + t.size := by
  have := atOf_le (bl (p ++ t)) 0; rw [bl_length, ByteArray.size_append] at this; omega

theorem wRest_size (p t : ByteArray) : (wRest p t).size ≤ p.size + t.size := by
  unfold wRest
  split
  · exact Nat.zero_le _
  · split
    · rw [ByteArray.size_extract]; omega
    · omega

theorem refW_all (p t : ByteArray) (w : World) (h1 : p.size ≤ 10000) (h2 : t.size ≤ 10000) :
    Calls Tryd.prog 36 #[.string p, .string t] w fun e w' => e = .returned (.tuple #[.string (wWant p t), .string (wRest p t), .int .i64 (wErr p t)]) ∧ Gr w w' := by
  unfold wWant wRest wErr
  by_cases e0 : errOf (bl (p ++ t)) = 0
  · rw [if_pos e0, if_pos e0, if_pos e0]; exact refW_0 p t w h1 h2 e0
  · rw [if_neg e0, if_neg e0, if_neg e0]
    by_cases e1 : errOf (bl (p ++ t)) = 23
    · rw [if_pos e1, if_pos e1, if_pos e1]; exact refW_23 p t w h1 h2 e1 _ rfl (at_in p t)
    · rw [if_neg e1, if_neg e1, if_neg e1]; exact refW_err p t w h1 h2 _ rfl (by simpa using e0) (by simpa using e1)

theorem write_all (b : Nat) (p t : ByteArray) (v : Value) (w : World) (h : DecAt w b p false) (hcv : ∀ n, (convert 38 9 v).run Tryd.prog (w.drewN n) = .ok (.string t) (w.drewN n)) (h1 : p.size ≤ 10000) (h2 : t.size ≤ 10000) :
    Calls Tryd.prog 32 #[.pointer (some ⟨b, 0, none⟩), v] w fun e w' => e = .returned (.tuple #[.string (wWant p t), .int .i64 (wErr p t)]) ∧ DecAt w' b (wRest p t) false ∧ Below b w w' := by
  unfold wWant wRest wErr
  by_cases e0 : errOf (bl (p ++ t)) = 0
  · rw [if_pos e0, if_pos e0, if_pos e0]; exact write_0 b p t v w h hcv h1 h2 _ rfl e0
  · rw [if_neg e0, if_neg e0, if_neg e0]
    by_cases e1 : errOf (bl (p ++ t)) = 23
    · rw [if_pos e1, if_pos e1, if_pos e1]; exact write_23 b p t v w h hcv h1 h2 _ rfl e1 (at_in p t)
    · rw [if_neg e1, if_neg e1, if_neg e1]; exact write_err b p t v w h hcv h1 h2 _ rfl _ rfl (by simpa using e0) (by simpa using e1)
end Go.Proofs.YtalommgkigacpaaDoor

/- groupname.Check: what it returns. The world's one fact: the library's variable MaxLen holds some number. -/
import Derived.Test.YtcdcmohccbhchaaGreatDoorStrs
import Derived.Test.YtcdcmohccbhchaaGreatDoorShelf
import Derived.Lib.SlBytesConst
namespace Go.Proofs.YtcdcmohccbhchaaGreatDoor
open Go.RowKit

/-- The library's variable MaxLen holds some number. -/
def Env (w : World) : Prop := ∃ m : Int, w.cell? ⟨1, 0, none⟩ = some (.int .i64 m)
theorem Env.gr {w w' : World} (h : Env w) (hg : Gr w w') : Env w' := by
  obtain ⟨m, hm⟩ := h
  exact ⟨m, (hg.cell (p := ⟨_, 0, none⟩) (World.block_lt_of_cell? w _ hm)).trans hm⟩

def lowB (c : Int) : Bool := decide (97 ≤ c) && decide (c ≤ 122)
def badB (c : Int) : Bool := !lowB c && (decide (c < 48) || decide (57 < c)) && c != 45 && c != 43 && c != 95
set_option maxHeartbeats 400000 in
theorem isLowerC (c : Int) (w : World) : Calls Tryz.prog 101 #[.int .u8 c] w fun e w' => e = .returned (.bool (lowB c)) ∧ w = w' := by
  go_enter Tryz.func101, Tryz.ntmps101
  go_wp2
  all_goals
    go_ret
    refine ⟨ret_bool ?_, rfl⟩
    unfold lowB
    rw [Bool.eq_iff_iff]
    simp
    omega
set_option maxHeartbeats 1000000 in
theorem badC (c : Int) (w : World) : Calls Tryz.prog 103 #[.int .u8 c] w fun e w' => e = .returned (.bool (badB c)) ∧ w = w' := by
  cases hl : lowB c with
  | true =>
    have HL := Lib.hid hl
    clear hl
    go_enter Tryz.func103, Tryz.ntmps103
    go_wp2_with (go_at_call 101; refine (isLowerC _ _).mono ?_; rintro e w' ⟨rfl, rfl⟩; rw [HL.out])
    go_ret
    exact ⟨ret_bool (by unfold badB; rw [HL.out]; rfl), rfl⟩
  | false =>
    have HL := Lib.hid hl
    clear hl
    go_enter Tryz.func103, Tryz.ntmps103
    go_wp2_with (go_at_call 101; refine (isLowerC _ _).mono ?_; rintro e w' ⟨rfl, rfl⟩; rw [HL.out])
    all_goals
      go_ret
      refine ⟨ret_bool ?_, rfl⟩
      unfold badB
      first | (rw [HL.out]; simp_all; done) | (simp_all; done) | (simp_all; omega)

/-- A component of a name. -/
def compB (s : ByteArray) : Bool := decide (0 < s.size) && decide (s.size ≤ 20) && lowB ((bl s).headD 0).toNat && !((bl s).any fun c => badB c.toNat)
theorem badPred (w : World) : PredAt Tryz.prog 103 #[] (fun c : UInt8 => .int .u8 (c.toNat : Int)) (fun c => badB c.toNat) w :=
  fun W c _ => (badC (c.toNat : Int) W).mono fun _ _ ⟨he, hw⟩ => ⟨he, 0, hw.symm⟩
/-- '[]byte(s)'. -/
theorem conv_bytes (s : ByteArray) (w : World) : ∃ cap W, (convert 9 69 (.string s)).run Tryz.prog w = .ok (.slice (some ⟨w.heap.size, 0, none⟩) s.size cap) W ∧ Lay w W ∧ BytesAt W w.heap.size 0 (bl s) ∧ s.size ≤ cap := by
  refine ⟨_, _, run_bytes_of_string w 9 69 5 s Tryz.underlying9 Tryz.underlying69 Tryz.underlying5, (Lay.refl w).drew.alloc _, ?_, grownCap_ge _ _ _ _⟩
  intro j hj
  rw [bl_length] at hj
  have hn := heap_alloc_new w.drew (.cells (bytesRow s (grownCap w s.size 0 5)) 5 ((bytesRow s (grownCap w s.size 0 5)).size, (bytesRow s (grownCap w s.size 0 5)).size + 1))
  have hn' : ((w.drew.alloc (.cells (bytesRow s (grownCap w s.size 0 5)) 5 ((bytesRow s (grownCap w s.size 0 5)).size, (bytesRow s (grownCap w s.size 0 5)).size + 1)))).heap[w.heap.size]? = some (.cells (bytesRow s (grownCap w s.size 0 5)) 5 ((bytesRow s (grownCap w s.size 0 5)).size, (bytesRow s (grownCap w s.size 0 5)).size + 1)) := hn
  rw [Nat.zero_add, cell_of_row _ _ _ _ _ _ hn']
  unfold bytesRow
  rw [Array.getElem?_append, if_pos (by simpa using hj)]
  have hj2 : j < s.data.size := hj
  simp only [Array.getElem?_map, Array.getElem?_eq_getElem hj2, Option.map_some, bl, Array.getElem_toList]

theorem compB_eq (s : ByteArray) (h0 : 0 < s.size) (h1 : s.size ≤ 20) : compB s = (lowB (s[0].toNat : Int) && !((bl s).any fun c => badB c.toNat)) := by
  have : (bl s).headD 0 = s[0] := by
    have hl : 0 < (bl s).length := by rw [bl_length]; exact h0
    obtain ⟨c, l, hcl⟩ : ∃ c l, bl s = c :: l := by cases h : bl s with | nil => rw [h] at hl; simp at hl | cons c l => exact ⟨c, l, rfl⟩
    have e : (bl s)[0]'hl = s[0] := rfl
    exact Eq.trans (show (bl s).headD 0 = c by rw [hcl]; rfl) (Eq.trans (by simp [hcl]) e)
  unfold compB
  rw [this]
  simp [h0, h1]
set_option maxRecDepth 100000 in
set_option maxHeartbeats 1000000 in
theorem isComponentC (s : ByteArray) (w : World) : Calls Tryz.prog 70 #[.string s] w fun e w' => e = .returned (.bool (compB s)) ∧ Gr w w' := by
  by_cases h0 : s.size = 0
  · have hl : bl s = [] := List.length_eq_zero_iff.1 (by rw [bl_length]; exact h0)
    have he2 : s.toList = [] := by rw [bl_toList]; exact hl
    have he : s.toList.isEmpty = true := by rw [he2]; rfl
    have hf : Hid (compB s = false) := by show _ = _; unfold compB; simp [h0]
    clear h0 hl
    go_enter Tryz.func70, Tryz.ntmps70
    go_wp2_with fail
    go_ret
    exact ⟨ret_bool hf.out.symm, Gr.refl w⟩
  · have hp : 0 < s.size := by omega
    have he : s.toList.isEmpty = false := by rw [bl_toList, List.isEmpty_eq_false_iff]; intro h; have := bl_length s; rw [h] at this; simp at this; omega
    have he2 : ¬ s.toList = [] := by intro h; rw [h] at he; cases he
    by_cases h1 : s.size ≤ 20
    · have hq := Lib.hid (compB_eq s hp h1)
      have hd : decide (20 < (s.size : Int)) = false := by simp; omega
      cases hl : lowB (s[0].toNat : Int) with
      | true =>
        have HL := Lib.hid hl
        obtain ⟨cap, W, hrun, hlay, hby, hcap⟩ := conv_bytes s w
        have eg : ∀ args w, (callFunc 103 args).run Tryz.prog w = .ok (.enter 103 args) w := enters_of Tryz.func103 (by kernel_rfl) rfl
        have hcon := AnyE.slices_ContainsFunc Tryz.containsByte (fun c : UInt8 => .int .u8 (c.toNat : Int)) (fun c => badB c.toNat) 103 #[] eg w.heap.size 0 s.size cap (bl s) W (badPred W) (by rw [bl_length]; exact Nat.le_refl _) (by omega) (fun j hj => by rw [hby j hj, getElem!_pos (bl s) j hj])
        rw [List.take_of_length_le (by rw [bl_length]; exact Nat.le_refl _)] at hcon
        have HC : Hid (Calls Tryz.prog 102 #[.slice (some ⟨w.heap.size, 0, none⟩) s.size cap, .func (.func 103) #[] #[]] W fun e w' => e = .returned (.bool ((bl s).any fun c => badB c.toNat)) ∧ ∃ q, w' = W.drewN q) := hcon
        have HY := Lib.hid hlay
        clear hl hby hlay eg hcon
        generalize ((bl s).any fun c => badB c.toNat) = r at *
        go_enter Tryz.func70, Tryz.ntmps70
        go_wp2_with (first | (go_at_call 101; refine (isLowerC _ _).mono ?_; rintro e w' ⟨rfl, rfl⟩; rw [HL.out]) | (go_at_call 102; refine HC.out.mono ?_; rintro e w' ⟨rfl, q, rfl⟩))
        go_ret
        exact ⟨ret_bool (by rw [hq.out, HL.out]; rfl), HY.out.1.drewN _⟩
      | false =>
        have HL := Lib.hid hl
        clear hl
        go_enter Tryz.func70, Tryz.ntmps70
        go_wp2_with (go_at_call 101; refine (isLowerC _ _).mono ?_; rintro e w' ⟨rfl, rfl⟩; rw [HL.out])
        go_ret
        exact ⟨ret_bool (by rw [hq.out, HL.out]; rfl), Gr.refl w⟩
    · have hf : Hid (compB s = false) := by show _ = _; unfold compB; simp [h1]
      have hd : decide (20 < (s.size : Int)) = true := by simp; omega
      go_enter Tryz.func70, Tryz.ntmps70
      go_wp2_with fail
      go_ret
      exact ⟨ret_bool hf.out.symm, Gr.refl w⟩

/-- The parts into which dots divide a name. -/
def partsOf (s : ByteArray) : List ByteArray := Lib.splitB ⟨#[46]⟩ 0 (Lib.countB s ⟨#[46]⟩) s
def nameErr (s : ByteArray) : Int := if 80 < s.size then 5 else if ((partsOf s).any fun p => !compB p) = true then 12 else if 10 < (partsOf s).length then 9 else 0

theorem parts_len (s : ByteArray) : (partsOf s).length = Lib.countB s ⟨#[46]⟩ + 1 := Lib.splitB_all ⟨#[46]⟩ (by decide) 0 _ s rfl
theorem parts_le (s : ByteArray) : (partsOf s).length ≤ s.size + 1 := by rw [parts_len]; have := Lib.countB_le ⟨#[46]⟩ (by decide) s.size s (Nat.le_refl _); omega
theorem strsAt_new (w : World) (l : List ByteArray) (cap : Nat) : StrsAt (w.alloc (.cells (l.map Value.string).toArray 9)) (.slice (some ⟨w.heap.size, 0, none⟩) l.length cap) l := by
  refine ⟨_, cap, rfl, fun j hj => ⟨w.heap.size, 0, rfl, by simp, ?_⟩⟩
  rw [Nat.zero_add, World.cell?_alloc_new]
  simp [hj]

set_option maxRecDepth 100000 in
set_option maxHeartbeats 1000000 in
theorem partsC (s : ByteArray) (w : World) (hE : Env w) (hs : s.size ≤ 1000) : Calls Tryz.prog 67 #[.string s] w fun e w' => e = .returned (.slice (some ⟨w.heap.size, 0, none⟩) (partsOf s).length (partsOf s).length) ∧ w' = w.alloc (.cells ((partsOf s).map Value.string).toArray 9) := by
  obtain ⟨m, hm⟩ := hE
  have HC := Lib.hid (Tryz.strings_Split s ⟨#[46]⟩ m w (by omega) hm (by decide))
  rw [← parts_len] at HC
  clear hm
  go_enter Tryz.func67, Tryz.ntmps67
  go_wp2_with fail
  refine HC.out.mono ?_
  rintro e w' ⟨rfl, rfl⟩
  go_wp2_with fail
  go_ret
  exact ⟨rfl, rfl⟩

set_option maxHeartbeats 1000000 in
theorem notComp (s : ByteArray) (w : World) : Calls Tryz.prog 69 #[.string s] w fun e w' => e = .returned (.bool (!compB s)) ∧ Gr w w' := by
  go_enter Tryz.func69, Tryz.ntmps69
  go_wp2_with fail
  refine (isComponentC s w).mono ?_
  rintro e w1 ⟨rfl, hg⟩
  go_wp2_with fail
  go_ret
  exact ⟨rfl, hg⟩

set_option maxRecDepth 100000 in
set_option maxHeartbeats 1000000 in
theorem checkName (s : ByteArray) (w : World) (hE : Env w) : Calls Tryz.prog 42 #[.string s] w fun e w' => e = .returned (.int .i64 (nameErr s)) ∧ Gr w w' := by
  by_cases h1 : 80 < s.size
  · have hf : Hid (nameErr s = 5) := by show _ = _; unfold nameErr; rw [if_pos h1]
    go_enter Tryz.func42, Tryz.ntmps42
    go_wp2_with fail
    go_ret
    exact ⟨ret_int hf.out.symm, Gr.refl w⟩
  · have hgr := (Gr.refl w).alloc (.cells ((partsOf s).map Value.string).toArray 9)
    have eg : ∀ args w, (callFunc 69 args).run Tryz.prog w = .ok (.enter 69 args) w := enters_of Tryz.func69 (by kernel_rfl) rfl
    have hl := parts_le s
    have HC := Lib.hid (containsFuncS (partsOf s) _ (fun p => !compB p) 69 #[] _ eg (fun p _ W _ => notComp p W) (strsAt_new w (partsOf s) (partsOf s).length) (by omega))
    have hP := Lib.hid (partsC s w hE (by omega))
    have HG := Lib.hid hgr
    have hf : Hid (nameErr s = if ((partsOf s).any fun p => !compB p) = true then 12 else if 10 < (partsOf s).length then 9 else 0) := by show _ = _; unfold nameErr; rw [if_neg h1]
    clear eg hgr hE
    generalize (partsOf s) = l at *
    cases hb : l.any fun p => !compB p with
    | true =>
      rw [hb] at HC
      have HB := Lib.hid hb
      clear hb
      go_enter Tryz.func42, Tryz.ntmps42
      go_wp2_with fail
      refine hP.out.mono ?_
      rintro e w' ⟨rfl, rfl⟩
      go_wp2_with fail
      refine HC.out.mono ?_
      rintro e w1 ⟨rfl, hg1⟩
      go_wp2_with fail
      go_ret
      exact ⟨ret_int (by rw [hf.out, HB.out]; rfl), HG.out.trans hg1⟩
    | false =>
      rw [hb] at HC
      have HB := Lib.hid hb
      clear hb
      by_cases h2 : 10 < l.length
      · go_enter Tryz.func42, Tryz.ntmps42
        go_wp2_with fail
        refine hP.out.mono ?_
        rintro e w' ⟨rfl, rfl⟩
        go_wp2_with fail
        refine HC.out.mono ?_
        rintro e w1 ⟨rfl, hg1⟩
        go_wp2_with fail
        go_ret
        exact ⟨ret_int (by rw [hf.out, HB.out, if_neg (by decide), if_pos h2]), HG.out.trans hg1⟩
      · go_enter Tryz.func42, Tryz.ntmps42
        go_wp2_with fail
        refine hP.out.mono ?_
        rintro e w' ⟨rfl, rfl⟩
        go_wp2_with fail
        refine HC.out.mono ?_
        rintro e w1 ⟨rfl, hg1⟩
        go_wp2_with fail
        go_ret
        exact ⟨ret_int (by rw [hf.out, HB.out, if_neg (by decide), if_neg h2]), HG.out.trans hg1⟩
end Go.Proofs.YtcdcmohccbhchaaGreatDoor

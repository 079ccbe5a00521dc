/- The contracts of the reference's Scalar, Size and Encode. -/
import Derived.Test.YtalommgkigacpaaDoorKnown
import Derived.Laws.AppendOwnNone
namespace Go.Proofs.YtalommgkigacpaaDoor
open Go.RowKit

set_option maxHeartbeats 400000 in
theorem scalar_any (r : Int) (w : World) : Calls Tryd.prog 22 #[.int .i64 r] w fun e w' => e = .returned (.bool (decide (scal r))) ∧ w = w' := by
  have hs : Hid (scal r ↔ 0 ≤ r ∧ r ≤ 1114111 ∧ (r < 55296 ∨ 57343 < r)) := Iff.rfl
  go_enter Tryd.func22, Tryd.ntmps22
  go_wp2
  all_goals
    go_ret
    refine ⟨ret_bool ?_, rfl⟩
    rw [Bool.eq_iff_iff, decide_eq_true_eq, hs.out]
    clear hs
    simp
    omega

/-- How many bytes. -/
def sizeZ (r : Int) : Int := if r ≤ 127 then 1 else if r ≤ 2047 then 2 else if r ≤ 65535 then 3 else 4

set_option maxHeartbeats 1000000 in
theorem size_any (r : Int) (w : World) (h0 : 0 ≤ r) (h1 : r ≤ 1114111) : Calls Tryd.prog 40 #[.int .i64 r] w fun e w' => e = .returned (.int .i64 (sizeZ r)) ∧ Gr w w' := by
  by_cases c1 : r ≤ 127
  · have HS : Hid (sizeZ r = 1) := by show _ = _; unfold sizeZ; rw [if_pos c1]
    go_enter Tryd.func40, Tryd.ntmps40
    go_wp2_with fail
    refine wp_loop_rounds 1 ?_
    rw [rounds_succ]
    go_wp2_with fail
    refine (most_t 1 _ (by decide) (by decide)).mono ?_
    rintro e w1 ⟨rfl, hg1⟩
    rw [most1]
    go_wp2_with fail
    go_ret
    exact ⟨ret_int HS.out.symm, hg1⟩
  by_cases c2 : r ≤ 2047
  · have HS : Hid (sizeZ r = 2) := by show _ = _; unfold sizeZ; rw [if_neg c1, if_pos c2]
    go_enter Tryd.func40, Tryd.ntmps40
    go_wp2_with fail
    refine wp_loop_rounds 2 ?_
    rw [rounds_succ]
    go_wp2_with fail
    refine (most_t 1 _ (by decide) (by decide)).mono ?_
    rintro e w1 ⟨rfl, hg1⟩
    rw [most1]
    go_wp2_with fail
    rw [rounds_succ]
    go_wp2_with fail
    refine (most_t 2 _ (by decide) (by decide)).mono ?_
    rintro e w2 ⟨rfl, hg2⟩
    rw [most2]
    go_wp2_with fail
    go_ret
    exact ⟨ret_int HS.out.symm, hg1.trans hg2⟩
  by_cases c3 : r ≤ 65535
  · have HS : Hid (sizeZ r = 3) := by show _ = _; unfold sizeZ; rw [if_neg c1, if_neg c2, if_pos c3]
    go_enter Tryd.func40, Tryd.ntmps40
    go_wp2_with fail
    refine wp_loop_rounds 3 ?_
    rw [rounds_succ]
    go_wp2_with fail
    refine (most_t 1 _ (by decide) (by decide)).mono ?_
    rintro e w1 ⟨rfl, hg1⟩
    rw [most1]
    go_wp2_with fail
    rw [rounds_succ]
    go_wp2_with fail
    refine (most_t 2 _ (by decide) (by decide)).mono ?_
    rintro e w2 ⟨rfl, hg2⟩
    rw [most2]
    go_wp2_with fail
    rw [rounds_succ]
    go_wp2_with fail
    refine (most_t 3 _ (by decide) (by decide)).mono ?_
    rintro e w3 ⟨rfl, hg3⟩
    rw [most3]
    go_wp2_with fail
    go_ret
    exact ⟨ret_int HS.out.symm, (hg1.trans hg2).trans hg3⟩
  · have HS : Hid (sizeZ r = 4) := by show _ = _; unfold sizeZ; rw [if_neg c1, if_neg c2, if_neg c3]
    go_enter Tryd.func40, Tryd.ntmps40
    go_wp2_with fail
    refine wp_loop_rounds 4 ?_
    rw [rounds_succ]
    go_wp2_with fail
    refine (most_t 1 _ (by decide) (by decide)).mono ?_
    rintro e w1 ⟨rfl, hg1⟩
    rw [most1]
    go_wp2_with fail
    rw [rounds_succ]
    go_wp2_with fail
    refine (most_t 2 _ (by decide) (by decide)).mono ?_
    rintro e w2 ⟨rfl, hg2⟩
    rw [most2]
    go_wp2_with fail
    rw [rounds_succ]
    go_wp2_with fail
    refine (most_t 3 _ (by decide) (by decide)).mono ?_
    rintro e w3 ⟨rfl, hg3⟩
    rw [most3]
    go_wp2_with fail
    rw [rounds_succ]
    go_wp2_with fail
    refine (most_t 4 _ (by decide) (by decide)).mono ?_
    rintro e w4 ⟨rfl, hg4⟩
    rw [most4]
    go_wp2_with fail
    go_ret
    exact ⟨ret_int HS.out.symm, ((hg1.trans hg2).trans hg3).trans hg4⟩

/-- Bytes in a slice of the call's own. -/
def Bytes (w : World) (base : Nat) (v : Value) (xs : List Int) : Prop := w.ownsRow base 5 1 v xs.length (xs.map (Value.int .u8))
theorem Bytes.gr {w w' : World} {base : Nat} {v : Value} {xs : List Int} (h : Bytes w base v xs) (hg : Gr w w') : Bytes w' base v xs := hg.own h

/-- The reference's way: from the last byte to the first. -/
def encR (b : Int) : Nat → Int → List Int → List Int
  | 0, x, xs => (b + x) :: xs
  | j + 1, x, xs => encR b j (x / 64) ((128 + x % 64) :: xs)
def EncPost (w : World) (xs : List Int) (e : Ending) (w' : World) : Prop := ∃ v, e = .returned v ∧ Bytes w' w.heap.size v xs ∧ Gr w w'

theorem append_front (_w w1 : World) (base : Nat) (x : Int) (v : Value) (xs : List Int) (ho : w1.ownsRow base 5 1 v (1 + xs.length) ([Value.int .u8 x] ++ xs.map (Value.int .u8))) : Bytes w1 base v (x :: xs) := by
  unfold Bytes; rw [List.length_cons, Nat.add_comm]; exact ho

set_option maxHeartbeats 1000000 in
set_option maxRecDepth 100000 in
theorem refEnc_1 (r : Int) (w : World) (h0 : 0 ≤ r) (h1 : r ≤ 127) : Calls Tryd.prog 23 #[.int .i64 r] w (EncPost w [r]) := by
  have HS : Hid (sizeZ r = 1) := by show _ = _; unfold sizeZ; rw [if_pos h1]
  go_enter Tryd.func23, Tryd.ntmps23
  go_wp2_with fail
  refine (size_any r _ h0 (by omega)).mono ?_
  rintro e w1 ⟨rfl, hg1⟩
  rw [HS.out]
  go_wp2_with fail
  go_ret
  exact ⟨_, rfl, World.ownsRow_lit w1 #[.int .u8 r] 1 hg1.size (by decide) rfl, hg1.alloc _⟩

set_option maxHeartbeats 1000000 in
set_option maxRecDepth 100000 in
theorem refEnc_n (r : Int) (w : World) (n : Nat) (b : Int) (h0 : 128 ≤ r) (h1 : r ≤ 1114111) (hn : (n = 2 ∧ b = 192 ∧ r ≤ 2047) ∨ (n = 3 ∧ b = 224 ∧ 2048 ≤ r ∧ r ≤ 65535) ∨ (n = 4 ∧ b = 240 ∧ 65536 ≤ r)) (OUT : List Int) (hO : Hid (OUT = encR b (n - 1) r [])) :
    Calls Tryd.prog 23 #[.int .i64 r] w (EncPost w OUT) := by
  obtain ⟨i0, hi, hz0, hz1, hz2⟩ := info_parts infoByte
  have HS : Hid (sizeZ r = n) := by
    show _ = _; unfold sizeZ; rw [if_neg (by omega)]
    rcases hn with h | h | h
    · rw [if_pos (by omega)]; omega
    · rw [if_neg (by omega), if_pos (by omega)]; omega
    · rw [if_neg (by omega), if_neg (by omega)]; omega
  have hn1 : 2 ≤ n := by omega
  have hn4 : n ≤ 4 := by omega
  have z1 : ((n : Int) == 1) = false := by simp; omega
  have HN := Lib.hid hn
  clear hn
  go_enter Tryd.func23, Tryd.ntmps23
  go_wp2_with fail
  refine (size_any r _ (by omega) (by omega)).mono ?_
  rintro e w1 ⟨rfl, hg1⟩
  rw [HS.out]
  go_wp2_with fail
  go_loopw [0, 4, 5] (fun u0 v i wr => ∃ (k : Nat) (x : Int) (xs : List Int), 1 ≤ k ∧ k ≤ n ∧ xs.length = k - 1 ∧ i = .int .i64 k ∧ 0 ≤ x ∧ x ≤ r ∧ u0 = .int .i64 x ∧ Hid (OUT = encR b (n - k) x xs) ∧ Hid ((k = 2 → 64 * x ≤ r) ∧ (k = 3 → 4096 * x ≤ r) ∧ (k = 4 → 262144 * x ≤ r)) ∧ Bytes wr w.heap.size v xs ∧ Gr w wr) (fun _ _ i _ => n - (intOf i).toNat)
  case atStart => exact ⟨1, r, [], by omega, by omega, rfl, rfl, by omega, by omega, rfl, hO, ⟨by omega, by omega, by omega⟩, World.ownsRow_nil _ _ _ _, hg1⟩
  case round =>
    obtain ⟨k, x, xs, hk1, hk2, hxl, rfl, hx0, hx1, rfl, kO, kB, hv, hg⟩ := hrel
    clear hO
    have hsz := hg.size
    have mone : ∀ (y : Int), ∀ u ∈ (xs.map (Value.int .u8)), u.oneCell' = true := by
      intro _ u hu; rw [List.mem_map] at hu; obtain ⟨a, _, rfl⟩ := hu; rfl
    have Mone := Lib.hid (mone 0)
    clear mone
    have Hxl := Lib.hid hxl
    have hxl2 : xs.length ≤ 3 := by omega
    clear hxl
    by_cases c : k < n
    · have kO' : Hid (OUT = encR b (n - (k + 1)) (x / 64) ((128 + x % 64) :: xs)) := by
        have := kO.out; rw [show n - k = (n - (k + 1)) + 1 by omega] at this; exact this
      have kB' : Hid ((k + 1 = 2 → 64 * (x / 64) ≤ r) ∧ (k + 1 = 3 → 4096 * (x / 64) ≤ r) ∧ (k + 1 = 4 → 262144 * (x / 64) ≤ r)) := by
        have := kB.out; refine ⟨?_, ?_, ?_⟩ <;> intro h <;> omega
      clear kO kB
      rcases hv.2 with ⟨hv0, hx⟩ | ⟨g, cap, cur, hv0, hb, hgg, hc1, hc2, hc3, hc4⟩
      · subst hv0
        obtain rfl : xs = [] := List.length_eq_zero_iff.1 hx
        clear hx
        go_wp2_with (at_builtin; refine wpList_append_own_none _ rfl (.tmp 22) (.tmp 23) 38 rfl w.heap.size 5 i0 1 Tryd.underlying38 hi _ 1 [.int .u8 (128 + x % 64)] rfl (World.ownsRow_lit wr #[.int .u8 (128 + x % 64)] 1 hsz (by decide) rfl) rfl ?_)
        go_wp2_with fail
        go_roundw
        case rel => exact ⟨k + 1, x / 64, [128 + x % 64], by omega, by omega, by have := Hxl.out; simp at this ⊢; omega, by go_num, by omega, by omega, rfl, kO', kB', World.ownsRow_lit wr #[.int .u8 (128 + x % 64)] 1 hsz (by decide) rfl, hg.alloc _⟩
        case measure => simp [intOf]; omega
      · subst hv0
        have hcl := (hv.gr ((Gr.refl wr).alloc (.cells #[.int .u8 (128 + x % 64)] 5))).cells (g := g) rfl
        have Hcl := Lib.hid hcl
        have Hv := Lib.hid hv
        clear hcl hv hgg hc4
        go_wp2_with (at_builtin; refine wpList_append_own_at _ rfl (.tmp 22) (.tmp 23) 38 rfl w.heap.size 5 i0 (.int .u8 0) 1 1 Tryd.underlying38 hi hz0 hz1 hz2 rfl (by decide) _ 1 [.int .u8 (128 + x % 64)] rfl (World.ownsRow_lit wr #[.int .u8 (128 + x % 64)] 1 hsz (by decide) rfl) ⟨g, 0, none⟩ xs.length cap (xs.map (Value.int .u8)) rfl ?_ Hcl.out Mone.out ?_ ?_ ?_ ?_)
        · simp
        · unfold maxLen; omega
        · omega
        · simp; omega
        intro v2 w2 ho2 hgr2 _ _
        have hb2 := append_front wr w2 _ _ _ _ ho2
        have hg2 : Gr w w2 := (hg.alloc _).grown hgr2 (fun q hq => by simp [Value.ownBlock] at hq; omega)
        clear ho2 hgr2
        go_wp2_with fail
        go_roundw
        case rel => exact ⟨k + 1, x / 64, (128 + x % 64) :: xs, by omega, by omega, by have := Hxl.out; simp at this ⊢; omega, by go_num, by omega, by omega, rfl, kO', kB', hb2, hg2⟩
        case measure => simp [intOf]; omega
    · have kn : k = n := by omega
      have kO' : Hid (OUT = (b + x) :: xs) := by
        have := kO.out; rw [show n - k = 0 by omega] at this; exact this
      have hbx : 0 ≤ b + x ∧ b + x ≤ 255 := by
        have := HN.out; have := kB.out; omega
      obtain ⟨bx0, bx1⟩ := hbx
      clear kO kB
      rcases hv.2 with ⟨hv0, hx⟩ | ⟨g, cap, cur, hv0, hb, hgg, hc1, hc2, hc3, hc4⟩
      · exfalso; have := Hxl.out; omega
      · subst hv0
        subst kn
        have Hv := Lib.hid hv
        clear hv hgg hc4 c hn4 hk2
        have mb : xs.length + 1 ≤ 5 := by omega
        rcases HN.out with ⟨rfl, rfl, hr⟩ | ⟨rfl, rfl, hr, hr'⟩ | ⟨rfl, rfl, hr⟩
        · clear HN hk1 hn1 z1
          have hcl := (Hv.out.gr (((Gr.refl wr).alloc (.cells #[.int .i64 0, .int .i64 0, .int .i64 192, .int .i64 224, .int .i64 240] 3)).alloc (.cells #[.int .u8 (192 + x)] 5))).cells (g := g) rfl
          have Hcl := Lib.hid hcl
          clear hcl
          go_wp2_with (at_builtin; refine wpList_append_own_at _ rfl (.tmp 34) (.tmp 35) 38 rfl w.heap.size 5 i0 (.int .u8 0) 1 1 Tryd.underlying38 hi hz0 hz1 hz2 rfl (by decide) (.slice (some ⟨wr.heap.size + 1, 0, none⟩) 1 1) 1 [.int .u8 (192 + x)] rfl ?_ ⟨g, 0, none⟩ xs.length cap (xs.map (Value.int .u8)) rfl ?_ Hcl.out Mone.out ?_ ?_ ?_ ?_)
          · have := World.ownsRow_lit (base := w.heap.size) (e := 5) (size := 1) (wr.alloc (.cells #[.int .i64 0, .int .i64 0, .int .i64 192, .int .i64 224, .int .i64 240] 3)) #[.int .u8 (192 + x)] 1 (by simp; omega) (by decide) rfl
            simpa using this
          · simp
          · unfold maxLen; omega
          · omega
          · simp; omega
          intro v2 w2 ho2 hgr2 _ _
          have hb2 := append_front wr w2 _ _ _ _ ho2
          have hg2 : Gr w w2 := ((hg.alloc _).alloc _).grown hgr2 (fun q hq => by simp [Value.ownBlock] at hq; omega)
          clear ho2 hgr2
          go_wp2_with fail
          go_ret
          have := kO'.out
          subst this
          exact ⟨_, rfl, hb2, hg2⟩
        · clear HN hk1 hn1 z1
          have hcl := (Hv.out.gr (((Gr.refl wr).alloc (.cells #[.int .i64 0, .int .i64 0, .int .i64 192, .int .i64 224, .int .i64 240] 3)).alloc (.cells #[.int .u8 (224 + x)] 5))).cells (g := g) rfl
          have Hcl := Lib.hid hcl
          clear hcl
          go_wp2_with (at_builtin; refine wpList_append_own_at _ rfl (.tmp 34) (.tmp 35) 38 rfl w.heap.size 5 i0 (.int .u8 0) 1 1 Tryd.underlying38 hi hz0 hz1 hz2 rfl (by decide) (.slice (some ⟨wr.heap.size + 1, 0, none⟩) 1 1) 1 [.int .u8 (224 + x)] rfl ?_ ⟨g, 0, none⟩ xs.length cap (xs.map (Value.int .u8)) rfl ?_ Hcl.out Mone.out ?_ ?_ ?_ ?_)
          · have := World.ownsRow_lit (base := w.heap.size) (e := 5) (size := 1) (wr.alloc (.cells #[.int .i64 0, .int .i64 0, .int .i64 192, .int .i64 224, .int .i64 240] 3)) #[.int .u8 (224 + x)] 1 (by simp; omega) (by decide) rfl
            simpa using this
          · simp
          · unfold maxLen; omega
          · omega
          · simp; omega
          intro v2 w2 ho2 hgr2 _ _
          have hb2 := append_front wr w2 _ _ _ _ ho2
          have hg2 : Gr w w2 := ((hg.alloc _).alloc _).grown hgr2 (fun q hq => by simp [Value.ownBlock] at hq; omega)
          clear ho2 hgr2
          go_wp2_with fail
          go_ret
          have := kO'.out
          subst this
          exact ⟨_, rfl, hb2, hg2⟩
        · clear HN hk1 hn1 z1
          have hcl := (Hv.out.gr (((Gr.refl wr).alloc (.cells #[.int .i64 0, .int .i64 0, .int .i64 192, .int .i64 224, .int .i64 240] 3)).alloc (.cells #[.int .u8 (240 + x)] 5))).cells (g := g) rfl
          have Hcl := Lib.hid hcl
          clear hcl
          go_wp2_with (at_builtin; refine wpList_append_own_at _ rfl (.tmp 34) (.tmp 35) 38 rfl w.heap.size 5 i0 (.int .u8 0) 1 1 Tryd.underlying38 hi hz0 hz1 hz2 rfl (by decide) (.slice (some ⟨wr.heap.size + 1, 0, none⟩) 1 1) 1 [.int .u8 (240 + x)] rfl ?_ ⟨g, 0, none⟩ xs.length cap (xs.map (Value.int .u8)) rfl ?_ Hcl.out Mone.out ?_ ?_ ?_ ?_)
          · have := World.ownsRow_lit (base := w.heap.size) (e := 5) (size := 1) (wr.alloc (.cells #[.int .i64 0, .int .i64 0, .int .i64 192, .int .i64 224, .int .i64 240] 3)) #[.int .u8 (240 + x)] 1 (by simp; omega) (by decide) rfl
            simpa using this
          · simp
          · unfold maxLen; omega
          · omega
          · simp; omega
          intro v2 w2 ho2 hgr2 _ _
          have hb2 := append_front wr w2 _ _ _ _ ho2
          have hg2 : Gr w w2 := ((hg.alloc _).alloc _).grown hgr2 (fun q hq => by simp [Value.ownBlock] at hq; omega)
          clear ho2 hgr2
          go_wp2_with fail
          go_ret
          have := kO'.out
          subst this
          exact ⟨_, rfl, hb2, hg2⟩

/-- The reference's Encode, at a code point. -/
theorem refEnc_any (r : Int) (w : World) (h : scal r) : Calls Tryd.prog 23 #[.int .i64 r] w (EncPost w (encZ r)) := by
  unfold scal at h
  by_cases c1 : r ≤ 127
  · rw [encZ_1 r c1]; exact refEnc_1 r w (by omega) c1
  by_cases c2 : r ≤ 2047
  · exact refEnc_n r w 2 192 (by omega) (by omega) (.inl ⟨rfl, rfl, c2⟩) _ (by show _ = _; rw [encZ_2 r (by omega) c2]; rfl)
  by_cases c3 : r ≤ 65535
  · refine refEnc_n r w 3 224 (by omega) (by omega) (.inr (.inl ⟨rfl, rfl, by omega, c3⟩)) _ ?_
    show _ = _
    rw [encZ_3 r (by omega) c3]
    show _ = [224 + r / 64 / 64, 128 + r / 64 % 64, 128 + r % 64]
    rw [show r / 64 / 64 = r / 4096 by omega]
  · refine refEnc_n r w 4 240 (by omega) (by omega) (.inr (.inr ⟨rfl, rfl, by omega⟩)) _ ?_
    show _ = _
    rw [encZ_4 r (by omega)]
    show _ = [240 + r / 64 / 64 / 64, 128 + r / 64 / 64 % 64, 128 + r / 64 % 64, 128 + r % 64]
    rw [show r / 64 / 64 / 64 = r / 262144 by omega, show r / 64 / 64 % 64 = r / 4096 % 64 by omega]

/-- 'string(b)' of such bytes. -/
theorem conv_own (w : World) (base : Nat) (v : Value) (xs : List Int) (h : Bytes w base v xs) (hne : xs ≠ []) : (convert 38 9 v).run Tryd.prog w = .ok (.string (strOfNums xs)) w := by
  have hl : xs.length ≠ 0 := fun e => hne (List.length_eq_zero_iff.1 e)
  rcases h.2 with ⟨_, h0⟩ | ⟨g, cap, cur, rfl, _, hg, _, _, _, ht⟩
  · exact absurd h0 hl
  · have hc := h.cells (g := g) rfl
    refine run_convert_bytes_arg w 38 5 Tryd.underlying38 Tryd.underlying5 g 0 xs.length cap xs rfl ?_ 9 Tryd.underlying9
    intro i hi
    have := hc i (.int .u8 (xs.getD i 0)) (by simp [hi])
    have e : (⟨g, 0, none⟩ : Addr).add i = ⟨g, 0 + i, none⟩ := by unfold Addr.add; split <;> simp_all
    rw [e] at this
    exact this
theorem encZ_ne (r : Int) : encZ r ≠ [] := by
  unfold encZ; repeat' split
  all_goals simp

theorem bl_append (a b : ByteArray) : bl (a ++ b) = bl a ++ bl b := by unfold bl; simp
theorem enc_len (r : Int) : (strOfNums (encZ r)).size = (encL r).length := by rw [← bl_length]; rfl
theorem encL_len4 (r : Int) : (encL r).length ≤ 4 := by
  unfold encL encZ; repeat' split
  all_goals simp

set_option maxHeartbeats 1000000 in
set_option maxRecDepth 100000 in
theorem utf8Encode_bad (r : Int) (s : ByteArray) (w : World) (hT : Tab w) (h1 : -2147483648 ≤ r) (h2 : r ≤ 2147483647) (hs : s.size ≤ 140737488351232) (h : ¬ scal r) :
    Calls Tryd.prog 5 #[.int .i32 r, .string s] w fun e w' => e = .returned (.bool true) ∧ Gr w w' := by
  have T0 := Lib.hid hT
  have HR := Lib.hid h
  have hd : decide (scal r) = false := by simpa using h
  have HD := Lib.hid hd
  clear hT h hd
  go_enter Tryd.func5, Tryd.ntmps5
  go_wp2_with fail
  refine (short_any s 20 _ hs (by decide)).mono ?_
  rintro e w' ⟨rfl, rfl⟩
  generalize shortB s 20 = t at *
  go_wp2_with fail
  refine (enc_bad r _ HR.out h1 h2).mono ?_
  rintro e w1 ⟨rfl, hg1⟩
  have T1 := Lib.hid (T0.out.gr hg1)
  go_wp2_with fail
  refine (known_any _ T1.out).mono ?_
  rintro e w2 ⟨rfl, hg2⟩
  go_wp2_with fail
  refine (scalar_any r _).mono ?_
  rintro e w3 ⟨rfl, rfl⟩
  rw [HD.out]
  go_wp2_with fail
  go_ret
  exact ⟨rfl, hg1.trans hg2⟩

set_option maxHeartbeats 1000000 in
set_option maxRecDepth 100000 in
theorem utf8Encode_good (r : Int) (s : ByteArray) (w : World) (hT : Tab w) (hs : s.size ≤ 140737488351232) (h : scal r) :
    Calls Tryd.prog 5 #[.int .i32 r, .string s] w fun e w' => e = .returned (.bool true) ∧ Gr w w' := by
  have T0 := Lib.hid hT
  have HR := Lib.hid h
  have hd : decide (scal r) = true := by simpa using h
  have HD := Lib.hid hd
  have r1 : 0 ≤ r := h.1
  have r2 : r ≤ 1114111 := h.2.1
  have hz : (shortB s 20).size ≤ 20 := by rw [shortB_size]; omega
  clear hT h hd
  go_enter Tryd.func5, Tryd.ntmps5
  go_wp2_with fail
  refine (short_any s 20 _ hs (by decide)).mono ?_
  rintro e w' ⟨rfl, rfl⟩
  generalize shortB s 20 = t at *
  go_wp2_with fail
  refine (encode_good r _ HR.out T0.out).mono ?_
  rintro e w1 ⟨rfl, hg1⟩
  have T1 := Lib.hid (T0.out.gr hg1)
  have hE : bl (strOfNums (encZ r)) = encL r := rfl
  have HE := Lib.hid hE
  have hL := enc_len r
  have hL4 : (strOfNums (encZ r)).size ≤ 4 := by rw [hL]; exact encL_len4 r
  have HL := Lib.hid hL
  clear hE hL
  generalize hb : strOfNums (encZ r) = b at *
  have HB := Lib.hid hb
  clear hb
  go_wp2_with fail
  refine (known_any _ T1.out).mono ?_
  rintro e w2 ⟨rfl, hg2⟩
  go_wp2_with fail
  refine (scalar_any r _).mono ?_
  rintro e w3 ⟨rfl, rfl⟩
  rw [HD.out]
  have hD := dec_enc r HR.out (bl t)
  have HD2 := Lib.hid hD
  clear hD
  go_wp2_with fail
  refine (decode_any (b ++ t) _ (by rw [ByteArray.size_append]; omega)).mono ?_
  rintro e w4 ⟨rfl, hg4⟩
  rw [bl_append, HE.out, HD2.out.1, HD2.out.2.1, HD2.out.2.2, ← HL.out]
  clear HD2
  go_wp2_with fail
  refine (refEnc_any r _ HR.out).mono ?_
  rintro e w5 ⟨v, rfl, hv, hg5⟩
  have hcv := conv_own w5 _ v _ hv (encZ_ne r)
  rw [HB.out] at hcv
  clear hv
  go_wp2_with fail
  go_ret
  exact ⟨rfl, ((hg1.trans hg2).trans hg4).trans hg5⟩

theorem utf8Encode_walk (r : Int) (s : ByteArray) (w : World) (hT : Tab w) (h1 : -2147483648 ≤ r) (h2 : r ≤ 2147483647) (hs : s.size ≤ 140737488351232) :
    Calls Tryd.prog 5 #[.int .i32 r, .string s] w fun e w' => e = .returned (.bool true) ∧ Gr w w' := by
  by_cases h : scal r
  · exact utf8Encode_good r s w hT hs h
  · exact utf8Encode_bad r s w hT h1 h2 hs h
end Go.Proofs.YtalommgkigacpaaDoor

/- The contract of utf8.Encode, in every world that holds the table of bounds. -/
import Derived.Test.YtalommgkigacpaaDoorAll
import Derived.Test.YtalommgkigacpaaDoorPlain3
import Derived.Laws.BytesArg
namespace Go.Proofs.YtalommgkigacpaaDoor
open Go.RowKit

/-- The table of bounds lies in block 0. -/
def Tab (w : World) : Prop := w.cell? ⟨0, 0, none⟩ = some (.int .i32 127) ∧ w.cell? ⟨0, 1, none⟩ = some (.int .i32 2047) ∧ w.cell? ⟨0, 2, none⟩ = some (.int .i32 65535) ∧ w.cell? ⟨0, 3, none⟩ = some (.int .i32 1114111)
theorem Tab.gr {w w' : World} (h : Tab w) (hg : Gr w w') : Tab w' := by
  have hb : 0 < w.heap.size := World.block_lt_of_cell? w ⟨0, 0, none⟩ h.1
  exact ⟨(hg.cell (p := ⟨0, 0, none⟩) hb).trans h.1, (hg.cell (p := ⟨0, 1, none⟩) hb).trans h.2.1, (hg.cell (p := ⟨0, 2, none⟩) hb).trans h.2.2.1, (hg.cell (p := ⟨0, 3, none⟩) hb).trans h.2.2.2⟩

theorem wraps_i64 (n : Int) (h0 : 0 ≤ n) (h1 : n < 2 ^ 62) : IntKind.i64.wrap n = n := by rw [IntKind.wrap_i64]; omega
theorem i64_960 : bits .and .i64 960 255 = 192 := by decide +kernel
theorem i64_480 : bits .and .i64 480 255 = 224 := by decide +kernel
theorem i64_240 : bits .and .i64 240 255 = 240 := by decide +kernel
theorem i64_or192 (y : Int) (h0 : 0 ≤ y) (h1 : y < 32) : bits .or .i64 192 y = 192 + y := bits_join .i64 62 (by decide) wraps_i64 5 192 y (by decide) (by decide) (by decide) h0 (by omega) (by omega)
theorem i64_or224 (y : Int) (h0 : 0 ≤ y) (h1 : y < 16) : bits .or .i64 224 y = 224 + y := bits_join .i64 62 (by decide) wraps_i64 4 224 y (by decide) (by decide) (by decide) h0 (by omega) (by omega)
theorem i64_or240 (y : Int) (h0 : 0 ≤ y) (h1 : y < 8) : bits .or .i64 240 y = 240 + y := bits_join .i64 62 (by decide) wraps_i64 3 240 y (by decide) (by decide) (by decide) h0 (by omega) (by omega)
/-- A continuation byte. -/
theorem cont_byte (x : Int) (h0 : 0 ≤ x) (h1 : x < 2147483648) : bits .or .u8 128 (bits .and .i32 x 63 % 256) = 128 + x % 64 := by
  rw [i32_mask6 x h0 h1, show x % 64 % 256 = x % 64 by omega]; exact u8_or128 _ (by omega) (by omega)
theorem cell_new (w : World) (C : Array Value) (i : Nat) : (w.alloc (.cells C 5)).cell? ⟨w.heap.size, 0 + i, none⟩ = C[i]? := by
  rw [World.cell?_alloc_at _ _ _ _ rfl]; simp
theorem conv (w : World) (xs : List Int) (C : Array Value) (hC : C = (xs.map (Value.int .u8)).toArray) (n : Nat) (hn : xs.length = n) : (convert 38 9 (.slice (some ⟨w.heap.size, 0, none⟩) n n)).run Tryd.prog (w.alloc (.cells C 5)) = .ok (.string (strOfNums xs)) (w.alloc (.cells C 5)) := by
  refine run_convert_bytes_arg (w.alloc (.cells C 5)) 38 5 Tryd.underlying38 Tryd.underlying5 w.heap.size 0 n n xs hn ?_ 9 Tryd.underlying9
  intro i hi
  rw [cell_new, hC]
  have : i < xs.length := by omega
  simp [this]
theorem conv1 (w : World) (a : Int) : (convert 38 9 (.slice (some ⟨w.heap.size, 0, none⟩) 1 1)).run Tryd.prog (w.alloc (.cells #[.int .u8 a] 5)) = .ok (.string (strOfNums [a])) (w.alloc (.cells #[.int .u8 a] 5)) := conv w [a] _ rfl 1 rfl
theorem conv2 (w : World) (a b : Int) : (convert 38 9 (.slice (some ⟨w.heap.size, 0, none⟩) 2 2)).run Tryd.prog (w.alloc (.cells #[.int .u8 a, .int .u8 b] 5)) = .ok (.string (strOfNums [a, b])) (w.alloc (.cells #[.int .u8 a, .int .u8 b] 5)) := conv w [a, b] _ rfl 2 rfl
theorem conv3 (w : World) (a b c : Int) : (convert 38 9 (.slice (some ⟨w.heap.size, 0, none⟩) 3 3)).run Tryd.prog (w.alloc (.cells #[.int .u8 a, .int .u8 b, .int .u8 c] 5)) = .ok (.string (strOfNums [a, b, c])) (w.alloc (.cells #[.int .u8 a, .int .u8 b, .int .u8 c] 5)) := conv w [a, b, c] _ rfl 3 rfl
theorem conv4 (w : World) (a b c d : Int) : (convert 38 9 (.slice (some ⟨w.heap.size, 0, none⟩) 4 4)).run Tryd.prog (w.alloc (.cells #[.int .u8 a, .int .u8 b, .int .u8 c, .int .u8 d] 5)) = .ok (.string (strOfNums [a, b, c, d])) (w.alloc (.cells #[.int .u8 a, .int .u8 b, .int .u8 c, .int .u8 d] 5)) := conv w [a, b, c, d] _ rfl 4 rfl
theorem ret_str {l m : List Int} (h : l = m) : Ending.returned (.tuple #[.string (strOfNums l), .int .i64 0]) = .returned (.tuple #[.string (strOfNums m), .int .i64 0]) := by rw [h]

set_option maxRecDepth 100000 in
set_option maxHeartbeats 1000000 in
theorem enc_bad (r : Int) (w : World) (h : ¬ scal r) (h1 : -2147483648 ≤ r) (h2 : r ≤ 2147483647) :
    Calls Tryd.prog 21 #[.int .i32 r] w fun e w' => e = .returned (.tuple #[.string ⟨#[]⟩, .int .i64 2]) ∧ Gr w w' := by
  have hh : r < 0 ∨ (0 ≤ r ∧ 1114111 < r) ∨ (0 ≤ r ∧ r ≤ 1114111 ∧ 55296 ≤ r ∧ r ≤ 57343) := by unfold scal at h; omega
  clear h
  rcases hh with h | ⟨h, h'⟩ | ⟨h, h', h'', h3⟩
  all_goals
    go_enter Tryd.func21, Tryd.ntmps21
    go_wp2_with fail
    go_ret2
    exact ⟨rfl, Gr.refl _⟩

set_option maxRecDepth 100000 in
set_option maxHeartbeats 1000000 in
theorem enc_1 (r : Int) (w : World) (h0 : 0 ≤ r) (h1 : r ≤ 127) (t0 : w.cell? ⟨0, 0, none⟩ = some (.int .i32 127)) :
    Calls Tryd.prog 21 #[.int .i32 r] w fun e w' => e = .returned (.tuple #[.string (strOfNums (encZ r)), .int .i64 0]) ∧ Gr w w' := by
  have hcv := conv1 w
  have HE : Hid ([r] = encZ r) := by show _ = _; unfold encZ; rw [if_pos h1]
  go_enter Tryd.func21, Tryd.ntmps21
  go_wp2_with fail
  go_ret2
  exact ⟨ret_str HE.out, (Gr.refl _).alloc _⟩

set_option maxRecDepth 100000 in
set_option maxHeartbeats 1000000 in
theorem enc_2 (r : Int) (w : World) (h0 : 128 ≤ r) (h1 : r ≤ 2047) (t0 : w.cell? ⟨0, 0, none⟩ = some (.int .i32 127)) (t1 : w.cell? ⟨0, 1, none⟩ = some (.int .i32 2047)) (_t2 : w.cell? ⟨0, 2, none⟩ = some (.int .i32 65535)) (_t3 : w.cell? ⟨0, 3, none⟩ = some (.int .i32 1114111)) :
    Calls Tryd.prog 21 #[.int .i32 r] w fun e w' => e = .returned (.tuple #[.string (strOfNums (encZ r)), .int .i64 0]) ∧ Gr w w' := by
  have hmk : ∀ w, (Instr.makeSlice 38 (.int .i64 2) (.int .i64 2)).run Tryd.prog w = .ok (.slice (some ⟨w.heap.size, 0, none⟩) 2 2) (w.alloc (.cells #[.int .u8 0, .int .u8 0] 5)) := fun _ => by kernel_rfl
  have hcv := conv2 w
  have HE : Hid ([bits .or .i64 (bits .and .i64 960 255) (r / 64) % 256, bits .or .u8 128 (bits .and .i32 r 63 % 256)] = encZ r) := by
    show _ = _
    unfold encZ; rw [if_neg (by omega), if_pos (by omega)]
    rw [i64_960, i64_or192 _ (by omega) (by omega), cont_byte r (by omega) (by omega)]
    rw [show (192 + r / 64) % 256 = 192 + r / 64 by omega]
  go_enter Tryd.func21, Tryd.ntmps21
  go_wp2_with fail
  refine wp_loop_rounds 1 ?_
  rw [rounds_succ]
  go_wp2_with fail
  refine wp_loop_rounds 2 ?_
  rw [rounds_succ]
  go_wp2_with fail
  rw [rounds_succ]
  go_wp2_with fail
  go_ret2
  exact ⟨ret_str HE.out, (Gr.refl _).alloc _⟩

set_option maxRecDepth 100000 in
set_option maxHeartbeats 1000000 in
theorem enc_3 (r : Int) (w : World) (h0 : 2048 ≤ r) (h1 : r ≤ 65535) (hs : r < 55296 ∨ 57343 < r) (t0 : w.cell? ⟨0, 0, none⟩ = some (.int .i32 127)) (t1 : w.cell? ⟨0, 1, none⟩ = some (.int .i32 2047)) (t2 : w.cell? ⟨0, 2, none⟩ = some (.int .i32 65535)) (_t3 : w.cell? ⟨0, 3, none⟩ = some (.int .i32 1114111)) :
    Calls Tryd.prog 21 #[.int .i32 r] w fun e w' => e = .returned (.tuple #[.string (strOfNums (encZ r)), .int .i64 0]) ∧ Gr w w' := by
  have hmk : ∀ w, (Instr.makeSlice 38 (.int .i64 3) (.int .i64 3)).run Tryd.prog w = .ok (.slice (some ⟨w.heap.size, 0, none⟩) 3 3) (w.alloc (.cells #[.int .u8 0, .int .u8 0, .int .u8 0] 5)) := fun _ => by kernel_rfl
  have hcv := conv3 w
  have HE : Hid ([bits .or .i64 (bits .and .i64 480 255) (r / 64 / 64) % 256, bits .or .u8 128 (bits .and .i32 (r / 64) 63 % 256), bits .or .u8 128 (bits .and .i32 r 63 % 256)] = encZ r) := by
    show _ = _
    unfold encZ; rw [if_neg (by omega), if_neg (by omega), if_pos (by omega)]
    rw [i64_480, i64_or224 _ (by omega) (by omega), cont_byte r (by omega) (by omega), cont_byte (r / 64) (by omega) (by omega)]
    rw [show (224 + r / 64 / 64) % 256 = 224 + r / 4096 by omega]
  rcases hs with hs | hs
  all_goals
    go_enter Tryd.func21, Tryd.ntmps21
    go_wp2_with fail
    refine wp_loop_rounds 2 ?_
    rw [rounds_succ]
    go_wp2_with fail
    rw [rounds_succ]
    go_wp2_with fail
    refine wp_loop_rounds 3 ?_
    rw [rounds_succ]
    go_wp2_with fail
    rw [rounds_succ]
    go_wp2_with fail
    rw [rounds_succ]
    go_wp2_with fail
    go_ret2
    exact ⟨ret_str HE.out, (Gr.refl _).alloc _⟩

set_option maxRecDepth 100000 in
set_option maxHeartbeats 1000000 in
theorem enc_4 (r : Int) (w : World) (h0 : 65536 ≤ r) (h1 : r ≤ 1114111) (t0 : w.cell? ⟨0, 0, none⟩ = some (.int .i32 127)) (t1 : w.cell? ⟨0, 1, none⟩ = some (.int .i32 2047)) (t2 : w.cell? ⟨0, 2, none⟩ = some (.int .i32 65535)) (t3 : w.cell? ⟨0, 3, none⟩ = some (.int .i32 1114111)) :
    Calls Tryd.prog 21 #[.int .i32 r] w fun e w' => e = .returned (.tuple #[.string (strOfNums (encZ r)), .int .i64 0]) ∧ Gr w w' := by
  have hmk : ∀ w, (Instr.makeSlice 38 (.int .i64 4) (.int .i64 4)).run Tryd.prog w = .ok (.slice (some ⟨w.heap.size, 0, none⟩) 4 4) (w.alloc (.cells #[.int .u8 0, .int .u8 0, .int .u8 0, .int .u8 0] 5)) := fun _ => by kernel_rfl
  have hcv := conv4 w
  have HE : Hid ([bits .or .i64 (bits .and .i64 240 255) (r / 64 / 64 / 64) % 256, bits .or .u8 128 (bits .and .i32 (r / 64 / 64) 63 % 256), bits .or .u8 128 (bits .and .i32 (r / 64) 63 % 256), bits .or .u8 128 (bits .and .i32 r 63 % 256)] = encZ r) := by
    show _ = _
    unfold encZ; rw [if_neg (by omega), if_neg (by omega), if_neg (by omega)]
    rw [i64_240, i64_or240 _ (by omega) (by omega), cont_byte r (by omega) (by omega), cont_byte (r / 64 / 64) (by omega) (by omega), cont_byte (r / 64) (by omega) (by omega)]
    rw [show (240 + r / 64 / 64 / 64) % 256 = 240 + r / 262144 by omega, show r / 64 / 64 % 64 = r / 4096 % 64 by omega]
  go_enter Tryd.func21, Tryd.ntmps21
  go_wp2_with fail
  refine wp_loop_rounds 3 ?_
  rw [rounds_succ]
  go_wp2_with fail
  rw [rounds_succ]
  go_wp2_with fail
  rw [rounds_succ]
  go_wp2_with fail
  refine wp_loop_rounds 4 ?_
  rw [rounds_succ]
  go_wp2_with fail
  rw [rounds_succ]
  go_wp2_with fail
  rw [rounds_succ]
  go_wp2_with fail
  rw [rounds_succ]
  go_wp2_with fail
  go_ret2
  exact ⟨ret_str HE.out, (Gr.refl _).alloc _⟩

/-- utf8.Encode, at a code point. -/
theorem encode_good (r : Int) (w : World) (h : scal r) (hT : Tab w) :
    Calls Tryd.prog 21 #[.int .i32 r] w fun e w' => e = .returned (.tuple #[.string (strOfNums (encZ r)), .int .i64 0]) ∧ Gr w w' := by
  obtain ⟨t0, t1, t2, t3⟩ := hT
  unfold scal at h
  by_cases c1 : r ≤ 127
  · exact enc_1 r w (by omega) c1 t0
  by_cases c2 : r ≤ 2047
  · exact enc_2 r w (by omega) c2 t0 t1 t2 t3
  by_cases c3 : r ≤ 65535
  · exact enc_3 r w (by omega) c3 (by omega) t0 t1 t2 t3
  · exact enc_4 r w (by omega) (by omega) t0 t1 t2 t3
end Go.Proofs.YtalommgkigacpaaDoor

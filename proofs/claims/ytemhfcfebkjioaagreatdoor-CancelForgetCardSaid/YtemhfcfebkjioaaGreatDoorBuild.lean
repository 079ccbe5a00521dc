/- Aggregates built out of parts that are rows. -/
import Derived.Test.YtemhfcfebkjioaaGreatDoorFew
namespace Go.Proofs.YtemhfcfebkjioaaGreatDoor
open Go.RowKit

theorem put_from (off : Nat) : ∀ (l pre mid post : List Value) (n : Nat), mid.length = l.length → pre.length = off + n →
    List.foldl (fun (cs : Array Value) (x : Value × Nat) => cs.setIfInBounds (off + x.2) x.1) (pre ++ mid ++ post).toArray (l.zipIdx n) = (pre ++ l ++ post).toArray
  | [], pre, mid, post, n, h, _ => by obtain rfl : mid = [] := List.length_eq_zero_iff.1 h; rfl
  | v :: l, pre, mid, post, n, h, hn => by
    obtain ⟨p, mid', rfl⟩ : ∃ p q, mid = p :: q := by cases mid with | nil => simp at h | cons p q => exact ⟨p, q, rfl⟩
    have e : (pre ++ p :: mid' ++ post).toArray.setIfInBounds (off + n) v = ((pre ++ [v]) ++ mid' ++ post).toArray := by
      rw [← hn]; simp
    rw [List.zipIdx_cons, List.foldl_cons, e]
    have := put_from off l (pre ++ [v]) mid' post (n + 1) (by simpa using h) (by simp [hn]; omega)
    simp only [List.append_assoc, List.cons_append, List.nil_append] at this ⊢
    exact this
theorem fill_step (place : Nat → Option (Nat × Nat)) (i : Nat) (v : Value) (l pre mid post : List Value) (rest : List (Nat × Value)) (hv : v.cells = l.toArray) (hm : mid.length = l.length) (hp : place i = some (pre.length, l.length)) :
    Instr.fill place (pre ++ mid ++ post).toArray ((i, v) :: rest) = Instr.fill place (pre ++ l ++ post).toArray rest := by
  have hz := put_from pre.length l pre mid post 0 hm rfl
  rw [Instr.fill, hp]
  simp only [hv]
  rw [if_neg (by simp; omega)]
  congr 1
  rw [← hz, ← Array.foldl_toList]
  simp
theorem placesCanc (w : World) : ∃ fs, Tryz.prog.underlying 27 = some (.struct fs) ∧ (fs.mapM (m := Sem) fun f => do pure (f.offset, ← Go.sizeOf f.type)).run Tryz.prog w = .ok #[(0, 32), (32, 16), (48, 1), (49, 32)] w := ⟨_, Tryz.underlying27, by kernel_rfl⟩
theorem zeroCanc (w : World) : (zeroValue 27).run Tryz.prog w = .ok (.agg (List.replicate 32 (Value.int .u8 0) ++ (List.replicate 16 (Value.int .u8 0) ++ ([Value.int .i64 0] ++ List.replicate 32 (Value.int .u8 0)))).toArray) w := by kernel_rfl
theorem bldCanc (i : Id) (a : Aut) (d : Int) (t : Id) (w : World) : (Instr.build 27 #[(0, .agg (bC i).toArray), (1, .agg (bC a).toArray), (2, .int .i64 d), (3, .agg (bC t).toArray)]).run Tryz.prog w = .ok (.agg (cancC ⟨i, a, d, t⟩).toArray) w := by
  obtain ⟨fs, hu, hp⟩ := placesCanc w
  have hc : cancC ⟨i, a, d, t⟩ = bC i ++ bC a ++ [.int .i64 d] ++ bC t := by simp [cancC]
  have s1 := fill_step (fun k => #[(0, 32), (32, 16), (48, 1), (49, 32)][k]?) 0 (.agg (bC i).toArray) (bC i) [] (List.replicate 32 (Value.int .u8 0)) (List.replicate 16 (Value.int .u8 0) ++ ([Value.int .i64 0] ++ List.replicate 32 (Value.int .u8 0))) [(1, .agg (bC a).toArray), (2, .int .i64 d), (3, .agg (bC t).toArray)] rfl (by rw [bC_length]; rfl) (by rw [bC_length]; rfl)
  have s2 := fill_step (fun k => #[(0, 32), (32, 16), (48, 1), (49, 32)][k]?) 1 (.agg (bC a).toArray) (bC a) (bC i) (List.replicate 16 (Value.int .u8 0)) ([Value.int .i64 0] ++ List.replicate 32 (Value.int .u8 0)) [(2, .int .i64 d), (3, .agg (bC t).toArray)] rfl (by rw [bC_length]; rfl) (by rw [bC_length, bC_length]; rfl)
  have s3 := fill_step (fun k => #[(0, 32), (32, 16), (48, 1), (49, 32)][k]?) 2 (.int .i64 d) [.int .i64 d] (bC i ++ bC a) [Value.int .i64 0] (List.replicate 32 (Value.int .u8 0)) [(3, .agg (bC t).toArray)] rfl rfl (by rw [List.length_append, bC_length, bC_length]; rfl)
  have s4 := fill_step (fun k => #[(0, 32), (32, 16), (48, 1), (49, 32)][k]?) 3 (.agg (bC t).toArray) (bC t) (bC i ++ bC a ++ [.int .i64 d]) (List.replicate 32 (Value.int .u8 0)) [] [] rfl (by rw [bC_length]; rfl) (by rw [List.length_append, List.length_append, bC_length, bC_length, bC_length]; rfl)
  simp only [List.append_assoc, List.nil_append, List.append_nil] at s1 s2 s3 s4 hc
  unfold Instr.build
  simp only [Sem.run_bind, zeroCanc, Result.andThen_ok, run_underlying hu, hp, Value.cells]
  rw [s1, s2, s3, s4, Instr.fill, hc]
  rfl

theorem placesRw (w : World) : ∃ fs, Tryz.prog.underlying 31 = some (.struct fs) ∧ (fs.mapM (m := Sem) fun f => do pure (f.offset, ← Go.sizeOf f.type)).run Tryz.prog w = .ok #[(0, 32), (32, 16), (48, 1), (49, 1), (50, 1), (51, 32)] w := ⟨_, Tryz.underlying31, by kernel_rfl⟩
theorem zeroRw (w : World) : (zeroValue 31).run Tryz.prog w = .ok (.agg (List.replicate 32 (Value.int .u8 0) ++ (List.replicate 16 (Value.int .u8 0) ++ ([Value.int .i64 0] ++ ([Value.slice none 0 0] ++ (Value.slice none 0 0 :: List.replicate 32 (Value.int .u8 0)))))).toArray) w := by kernel_rfl
theorem zId_list : bC zeroId = List.replicate 32 (Value.int .u8 0) := by kernel_rfl
theorem bldRw (i : Id) (a : Aut) (d : Int) (g : Option Addr) (n c : Nat) (w : World) : (Instr.build 31 #[(0, .agg (bC i).toArray), (1, .agg (bC a).toArray), (2, .int .i64 d), (3, .slice g n c)]).run Tryz.prog w = .ok (.agg (rwC ⟨i, a, d, .slice g n c, .slice none 0 0, zeroId⟩).toArray) w := by
  obtain ⟨fs, hu, hp⟩ := placesRw w
  have hc : rwC ⟨i, a, d, .slice g n c, .slice none 0 0, zeroId⟩ = bC i ++ bC a ++ [.int .i64 d] ++ [.slice g n c] ++ (Value.slice none 0 0 :: List.replicate 32 (Value.int .u8 0)) := by simp [rwC, zId_list]
  have s1 := fill_step (fun k => #[(0, 32), (32, 16), (48, 1), (49, 1), (50, 1), (51, 32)][k]?) 0 (.agg (bC i).toArray) (bC i) [] (List.replicate 32 (Value.int .u8 0)) (List.replicate 16 (Value.int .u8 0) ++ ([Value.int .i64 0] ++ ([Value.slice none 0 0] ++ (Value.slice none 0 0 :: List.replicate 32 (Value.int .u8 0))))) [(1, .agg (bC a).toArray), (2, .int .i64 d), (3, .slice g n c)] rfl (by rw [bC_length]; rfl) (by rw [bC_length]; rfl)
  have s2 := fill_step (fun k => #[(0, 32), (32, 16), (48, 1), (49, 1), (50, 1), (51, 32)][k]?) 1 (.agg (bC a).toArray) (bC a) (bC i) (List.replicate 16 (Value.int .u8 0)) ([Value.int .i64 0] ++ ([Value.slice none 0 0] ++ (Value.slice none 0 0 :: List.replicate 32 (Value.int .u8 0)))) [(2, .int .i64 d), (3, .slice g n c)] rfl (by rw [bC_length]; rfl) (by rw [bC_length, bC_length]; rfl)
  have s3 := fill_step (fun k => #[(0, 32), (32, 16), (48, 1), (49, 1), (50, 1), (51, 32)][k]?) 2 (.int .i64 d) [.int .i64 d] (bC i ++ bC a) [Value.int .i64 0] ([Value.slice none 0 0] ++ (Value.slice none 0 0 :: List.replicate 32 (Value.int .u8 0))) [(3, .slice g n c)] rfl rfl (by rw [List.length_append, bC_length, bC_length]; rfl)
  have s4 := fill_step (fun k => #[(0, 32), (32, 16), (48, 1), (49, 1), (50, 1), (51, 32)][k]?) 3 (.slice g n c) [.slice g n c] (bC i ++ bC a ++ [.int .i64 d]) [Value.slice none 0 0] (Value.slice none 0 0 :: List.replicate 32 (Value.int .u8 0)) [] rfl rfl (by rw [List.length_append, List.length_append, bC_length, bC_length]; rfl)
  simp only [List.append_assoc, List.nil_append] at s1 s2 s3 s4 hc
  unfold Instr.build
  simp only [Sem.run_bind, zeroRw, Result.andThen_ok, run_underlying hu, hp, Value.cells]
  rw [s1, s2, s3, s4, Instr.fill, hc]
  rfl
theorem split4 (Z : List Value) (h : Z.length = 324) : ∃ A B C D : List Value, Z = A ++ (B ++ (C ++ D)) ∧ A.length = 81 ∧ B.length = 81 ∧ C.length = 81 ∧ D.length = 81 :=
  ⟨Z.take 81, (Z.drop 81).take 81, ((Z.drop 81).drop 81).take 81, ((Z.drop 81).drop 81).drop 81, by rw [List.take_append_drop, List.take_append_drop, List.take_append_drop], by simp; omega, by simp; omega, by simp; omega, by simp; omega⟩
theorem fill4 (Z : Array Value) (h : Z.size = 324) (a b c d : Canc) : Instr.fill (fun i => some (i * 81, 81)) Z [(0, .agg (cancC a).toArray), (1, .agg (cancC b).toArray), (2, .agg (cancC c).toArray), (3, .agg (cancC d).toArray)] = some ([a, b, c, d].map cancC).flatten.toArray := by
  obtain ⟨A, B, C, D, hZ, h1, h2, h3, h4⟩ := split4 Z.toList (by simpa using h)
  obtain rfl : Z = (A ++ (B ++ (C ++ D))).toArray := by rw [← hZ]
  have s1 := fill_step (fun i => some (i * 81, 81)) 0 (.agg (cancC a).toArray) (cancC a) [] A (B ++ (C ++ D)) [(1, .agg (cancC b).toArray), (2, .agg (cancC c).toArray), (3, .agg (cancC d).toArray)] rfl (by rw [cancC_length]; exact h1) (by rw [cancC_length]; rfl)
  have s2 := fill_step (fun i => some (i * 81, 81)) 1 (.agg (cancC b).toArray) (cancC b) (cancC a) B (C ++ D) [(2, .agg (cancC c).toArray), (3, .agg (cancC d).toArray)] rfl (by rw [cancC_length]; exact h2) (by rw [cancC_length, cancC_length])
  have s3 := fill_step (fun i => some (i * 81, 81)) 2 (.agg (cancC c).toArray) (cancC c) (cancC a ++ cancC b) C D [(3, .agg (cancC d).toArray)] rfl (by rw [cancC_length]; exact h3) (by rw [List.length_append, cancC_length, cancC_length, cancC_length])
  have s4 := fill_step (fun i => some (i * 81, 81)) 3 (.agg (cancC d).toArray) (cancC d) (cancC a ++ cancC b ++ cancC c) D [] [] rfl (by rw [cancC_length]; exact h4) (by rw [List.length_append, List.length_append, cancC_length, cancC_length, cancC_length, cancC_length])
  simp only [List.append_assoc, List.nil_append, List.append_nil] at s1 s2 s3 s4
  rw [s1, s2, s3, s4, Instr.fill]
  simp
theorem bldSl4 (a b c d : Canc) (w : World) : (Instr.buildSlice 40 4 #[(0, .agg (cancC a).toArray), (1, .agg (cancC b).toArray), (2, .agg (cancC c).toArray), (3, .agg (cancC d).toArray)]).run Tryz.prog w =
    .ok (.slice (some ⟨w.heap.size, 0, none⟩) 4 4) (w.alloc (.cells ([a, b, c, d].map cancC).flatten.toArray 27)) := by
  have hsz : (Go.sizeOf 27).run Tryz.prog w = .ok 81 w := by rw [run_sizeOf' aggCanc, cellsCanc]
  unfold Instr.buildSlice
  simp only [Sem.run_bind, run_underlying Tryz.underlying40, Result.andThen_ok, hsz]
  rw [if_neg (by decide), if_neg (by decide)]
  simp only [Sem.run_bind, zeroCanc, Result.andThen_ok, Sem.run_pure]
  rw [fill4 _ (by simp)]
  rfl

theorem placesDfn (w : World) : ∃ fs, Tryz.prog.underlying 52 = some (.struct fs) ∧ (fs.mapM (m := Sem) fun f => do pure (f.offset, ← Go.sizeOf f.type)).run Tryz.prog w = .ok #[(0, 32), (32, 16), (48, 1), (49, 1), (50, 1), (51, 1), (52, 1), (53, 1)] w := ⟨_, Tryz.underlying52, by kernel_rfl⟩
theorem zeroDfn' (w : World) : (zeroValue 52).run Tryz.prog w = .ok (.agg ((List.replicate 32 (Value.int .u8 0) ++ (List.replicate 16 (Value.int .u8 0) ++ ([Value.string ⟨#[]⟩] ++ ([Value.int .i64 0] ++ ([Value.bool false] ++ ([Value.bool false] ++ ([Value.slice none 0 0] ++ ([Value.string ⟨#[]⟩]))))))))).toArray) w := by kernel_rfl
theorem bldDfn (i : Id) (a : Aut) (g : ByteArray) (v : Int) (m : Bool) (ad : Option Addr) (n c : Nat) (w : World) : (Instr.build 52 #[(0, (.agg (bC i).toArray)), (1, (.agg (bC a).toArray)), (2, (.string g)), (3, (.int .i64 v)), (5, (.bool m)), (6, (.slice ad n c))]).run Tryz.prog w = .ok (.agg (dfnC ⟨i, a, g, v, false, m, .slice ad n c, ⟨#[]⟩⟩).toArray) w := by
  obtain ⟨fs, hu, hp⟩ := placesDfn w
  have hc : dfnC ⟨i, a, g, v, false, m, .slice ad n c, ⟨#[]⟩⟩ = bC i ++ bC a ++ [.string g] ++ [.int .i64 v] ++ [.bool false] ++ [.bool m] ++ [.slice ad n c] ++ [.string ⟨#[]⟩] := by simp [dfnC]
  have s0 := fill_step (fun k => #[(0, 32), (32, 16), (48, 1), (49, 1), (50, 1), (51, 1), (52, 1), (53, 1)][k]?) 0 (.agg (bC i).toArray) (bC i) [] (List.replicate 32 (Value.int .u8 0)) (List.replicate 16 (Value.int .u8 0) ++ ([Value.string ⟨#[]⟩] ++ ([Value.int .i64 0] ++ ([Value.bool false] ++ ([Value.bool false] ++ ([Value.slice none 0 0] ++ ([Value.string ⟨#[]⟩]))))))) [(1, (.agg (bC a).toArray)), (2, (.string g)), (3, (.int .i64 v)), (5, (.bool m)), (6, (.slice ad n c))] rfl (by simp [bC_length]) (by simp [bC_length])
  have s1 := fill_step (fun k => #[(0, 32), (32, 16), (48, 1), (49, 1), (50, 1), (51, 1), (52, 1), (53, 1)][k]?) 1 (.agg (bC a).toArray) (bC a) ((bC i)) (List.replicate 16 (Value.int .u8 0)) ([Value.string ⟨#[]⟩] ++ ([Value.int .i64 0] ++ ([Value.bool false] ++ ([Value.bool false] ++ ([Value.slice none 0 0] ++ ([Value.string ⟨#[]⟩])))))) [(2, (.string g)), (3, (.int .i64 v)), (5, (.bool m)), (6, (.slice ad n c))] rfl (by simp [bC_length]) (by simp [bC_length])
  have s2 := fill_step (fun k => #[(0, 32), (32, 16), (48, 1), (49, 1), (50, 1), (51, 1), (52, 1), (53, 1)][k]?) 2 (.string g) [.string g] ((bC i) ++ (bC a)) [Value.string ⟨#[]⟩] ([Value.int .i64 0] ++ ([Value.bool false] ++ ([Value.bool false] ++ ([Value.slice none 0 0] ++ ([Value.string ⟨#[]⟩]))))) [(3, (.int .i64 v)), (5, (.bool m)), (6, (.slice ad n c))] rfl (by simp []) (by simp [bC_length])
  have s3 := fill_step (fun k => #[(0, 32), (32, 16), (48, 1), (49, 1), (50, 1), (51, 1), (52, 1), (53, 1)][k]?) 3 (.int .i64 v) [.int .i64 v] ((bC i) ++ (bC a) ++ [.string g]) [Value.int .i64 0] ([Value.bool false] ++ ([Value.bool false] ++ ([Value.slice none 0 0] ++ ([Value.string ⟨#[]⟩])))) [(5, (.bool m)), (6, (.slice ad n c))] rfl (by simp []) (by simp [bC_length])
  have s4 := fill_step (fun k => #[(0, 32), (32, 16), (48, 1), (49, 1), (50, 1), (51, 1), (52, 1), (53, 1)][k]?) 5 (.bool m) [.bool m] ((bC i) ++ (bC a) ++ [.string g] ++ [.int .i64 v] ++ [Value.bool false]) [Value.bool false] ([Value.slice none 0 0] ++ ([Value.string ⟨#[]⟩])) [(6, (.slice ad n c))] rfl (by simp []) (by simp [bC_length])
  have s5 := fill_step (fun k => #[(0, 32), (32, 16), (48, 1), (49, 1), (50, 1), (51, 1), (52, 1), (53, 1)][k]?) 6 (.slice ad n c) [.slice ad n c] ((bC i) ++ (bC a) ++ [.string g] ++ [.int .i64 v] ++ [Value.bool false] ++ [.bool m]) [Value.slice none 0 0] ([Value.string ⟨#[]⟩]) [] rfl (by simp []) (by simp [bC_length])
  simp only [List.append_assoc, List.nil_append] at s0 s1 s2 s3 s4 s5 hc
  unfold Instr.build
  simp only [Sem.run_bind, zeroDfn', Result.andThen_ok, run_underlying hu, hp, Value.cells]
  rw [s0, s1, s2, s3, s4, s5, Instr.fill, hc]
  rfl

def autK (k : UInt8) : Aut := ⟨#[k, 0, 0, 0, 0, 0, 0, 0, 0, 0, 0, 0, 0, 0, 0, 0], rfl⟩
def idK (k : UInt8) : Id := ⟨#[k, 0, 0, 0, 0, 0, 0, 0, 0, 0, 0, 0, 0, 0, 0, 0, 0, 0, 0, 0, 0, 0, 0, 0, 0, 0, 0, 0, 0, 0, 0, 0], rfl⟩
theorem bldAut1 (w : World) : (Instr.build 25 #[(0, .int .u8 1)]).run Tryz.prog w = .ok (.agg (bC (autK 1)).toArray) w := by kernel_rfl
theorem bldAut2 (w : World) : (Instr.build 25 #[(0, .int .u8 2)]).run Tryz.prog w = .ok (.agg (bC (autK 2)).toArray) w := by kernel_rfl
theorem bldAut3 (w : World) : (Instr.build 25 #[(0, .int .u8 3)]).run Tryz.prog w = .ok (.agg (bC (autK 3)).toArray) w := by kernel_rfl
theorem bldAut9 (w : World) : (Instr.build 25 #[(0, .int .u8 9)]).run Tryz.prog w = .ok (.agg (bC (autK 9)).toArray) w := by kernel_rfl
theorem bldId1 (w : World) : (Instr.build 23 #[(0, .int .u8 1)]).run Tryz.prog w = .ok (.agg (bC (idK 1)).toArray) w := by kernel_rfl
theorem bldId2 (w : World) : (Instr.build 23 #[(0, .int .u8 2)]).run Tryz.prog w = .ok (.agg (bC (idK 2)).toArray) w := by kernel_rfl
theorem bldId3 (w : World) : (Instr.build 23 #[(0, .int .u8 3)]).run Tryz.prog w = .ok (.agg (bC (idK 3)).toArray) w := by kernel_rfl
theorem bldId4 (w : World) : (Instr.build 23 #[(0, .int .u8 4)]).run Tryz.prog w = .ok (.agg (bC (idK 4)).toArray) w := by kernel_rfl
theorem bldId7 (w : World) : (Instr.build 23 #[(0, .int .u8 7)]).run Tryz.prog w = .ok (.agg (bC (idK 7)).toArray) w := by kernel_rfl
theorem bldId8 (w : World) : (Instr.build 23 #[(0, .int .u8 8)]).run Tryz.prog w = .ok (.agg (bC (idK 8)).toArray) w := by kernel_rfl
end Go.Proofs.YtemhfcfebkjioaaGreatDoor

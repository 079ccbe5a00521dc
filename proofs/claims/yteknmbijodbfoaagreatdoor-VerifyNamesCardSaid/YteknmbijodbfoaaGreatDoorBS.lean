/- Words of 32 bits in a walk: rules that keep them words; rotations; the types of SHA-256. sha256.round, plus, initial. sha256.process: the 64 rounds of a block. sha256.load, words.digest. (*sha256.Hash).Write. (*sha256.Hash).Write: the bytes are taken. (*sha256.Hash).Sum, sha256.Sum, SumHalf. sha256.SumHalf, onetime.hash, input, first. -/
import Derived.Test.YteknmbijodbfoaaGreatDoorBD
import Derived.Test.YteknmbijodbfoaaGreatDoorBV
import Derived.Laws.BitsAllLaws
import Derived.Test.YteknmbijodbfoaaGreatDoorBE
namespace Go.Proofs.YteknmbijodbfoaaGreatDoor
open Go.RowKit

/-- A word as an integer. -/
def nW (x : UInt32) : Int := (x.toNat : Int)
def cW (x : UInt32) : Value := .int .u32 (nW x)
theorem lt32 (x : UInt32) : x.toNat < 4294967296 := x.toNat_lt
@[go_sem] theorem addW (x y : UInt32) : IntKind.u32.wrap (nW x + nW y) = nW (x + y) := by
  have hx := lt32 x; have hy := lt32 y
  unfold nW; rw [IntKind.wrap_u32', UInt32.toNat_add]; omega
@[go_sem] theorem andW (x y : UInt32) : bits .and .u32 (nW x) (nW y) = nW (x &&& y) := by
  unfold nW; rw [u32_and_nat _ _ (lt32 x) (lt32 y), UInt32.toNat_and]
@[go_sem] theorem orW (x y : UInt32) : bits .or .u32 (nW x) (nW y) = nW (x ||| y) := by
  unfold nW; rw [u32_or_nat _ _ (lt32 x) (lt32 y), UInt32.toNat_or]
@[go_sem] theorem xorW (x y : UInt32) : bits .xor .u32 (nW x) (nW y) = nW (x ^^^ y) := by
  unfold nW; rw [u32_xor_nat _ _ (lt32 x) (lt32 y), UInt32.toNat_xor]
@[go_sem] theorem notW (x : UInt32) : bits .xor .u32 4294967295 (nW x) = nW (~~~x) := by
  have h := xorW 4294967295 x
  rw [show (4294967295 : UInt32) = -1 from rfl, UInt32.neg_one_xor] at h
  exact h
@[go_sem] theorem notM (x : UInt32) : bits .xor .u32 IntKind.u32.max (nW x) = nW (~~~x) := notW x
@[go_sem] theorem sg32 : IntKind.u32.signed = false := rfl
theorem shr_w (x : UInt32) (n : Nat) (h : n < 32) : nW x / 2 ^ n = nW (x >>> UInt32.ofNat n) := by
  unfold nW
  rw [UInt32.toNat_shiftRight, UInt32.toNat_ofNat']
  rw [Nat.mod_eq_of_lt (show n < 2 ^ 32 by omega), Nat.mod_eq_of_lt h, Nat.shiftRight_eq_div_pow]
  simp
theorem shl_w (x : UInt32) (n : Nat) (h : n < 32) : IntKind.u32.wrap (nW x * 2 ^ n) = nW (x <<< UInt32.ofNat n) := by
  unfold nW
  rw [IntKind.wrap_u32', UInt32.toNat_shiftLeft, UInt32.toNat_ofNat']
  rw [Nat.mod_eq_of_lt (show n < 2 ^ 32 by omega), Nat.mod_eq_of_lt h, Nat.shiftLeft_eq]
  simp
@[go_sem] theorem shr3 (x : UInt32) : nW x / (8 : Int) = nW (x >>> 3) := shr_w x 3 (by decide)
@[go_sem] theorem shr10 (x : UInt32) : nW x / (1024 : Int) = nW (x >>> 10) := shr_w x 10 (by decide)
@[go_sem] theorem shl8 (x : UInt32) : IntKind.u32.wrap (nW x * (256 : Int)) = nW (x <<< 8) := shl_w x 8 (by decide)
@[go_sem] theorem ofB (b : UInt8) : IntKind.u32.wrap (b.toNat : Int) = nW b.toUInt32 := by
  have := b.toNat_lt
  unfold nW; rw [IntKind.wrap_u32', UInt8.toNat_toUInt32]; omega
theorem rr_or (x n m : UInt32) : ((x <<< m) ||| (x >>> n)) = rr x n m := UInt32.or_comm _ _

theorem wrapN (j : Nat) (h : j < 4294967296) : IntKind.i64.wrap (j : Int) = (j : Int) := by rw [IntKind.wrap_i64]; omega
theorem wrapS (t a k : Nat) (e : t = a + k) (h : t < 4294967296) : IntKind.i64.wrap ((t : Int) - (k : Int)) = (a : Int) := by rw [IntKind.wrap_i64]; omega
theorem ltN {a b : Nat} (h : a < b) : (a : Int) < (b : Int) := Int.ofNat_lt.2 h
theorem leN {a b : Nat} (h : a ≤ b) : (a : Int) ≤ (b : Int) := Int.ofNat_le.2 h
theorem zeN (a : Nat) : (0 : Int) ≤ (a : Int) := Int.natCast_nonneg a
theorem modN {a b j : Nat} (h : a % b = j) : (a : Int) % (b : Int) = (j : Int) := by subst h; rfl
theorem tmodN {a b j : Nat} (h : a % b = j) : (a : Int).tmod (b : Int) = (j : Int) := by subst h; rfl
theorem lt_mod {a b j : Nat} (hb : 0 < b) (h : a % b = j) : j < b := h ▸ Nat.mod_lt _ hb
/-! ### rows of words -/
def wdC (s : Wd) : List Value := [cW s.a, cW s.b, cW s.c, cW s.d, cW s.e, cW s.f, cW s.g, cW s.i]
theorem wdC_map (s : Wd) : wdC s = (wdL s).map cW := rfl
theorem wdC_length (s : Wd) : (wdC s).length = 8 := by unfold wdC; simp
def vW (p : Vector UInt32 16) : List Value := p.toList.map cW
theorem vW_length (p : Vector UInt32 16) : (vW p).length = 16 := by simp [vW]
theorem vW_at (p : Vector UInt32 16) (j : Nat) (h : j < 16) : (vW p)[j]? = some (cW p[j]) := by
  unfold vW; rw [List.getElem?_map, Vector.getElem?_toList, Vector.getElem?_eq_getElem h]; rfl
theorem vW_set (p : Vector UInt32 16) (j : Nat) (h : j < 16) (x : UInt32) : (vW p).set j (cW x) = vW (p.set j x h) := by
  unfold vW; rw [← List.map_set, Vector.toList_set]
theorem wd_one (s : Wd) : oneB (wdC s) = true := by
  rw [wdC_map]; simp only [oneB, List.all_map, List.all_eq_true]; intro b _; rfl
theorem vW_one (p : Vector UInt32 16) : oneB (vW p) = true := by
  simp only [oneB, vW, List.all_map, List.all_eq_true]; intro b _; rfl
@[go_sem] theorem aggWd : aggB Tryz.prog 138 = true := by kernel_rfl
@[go_sem] theorem aggW16 : aggB Tryz.prog 144 = true := by kernel_rfl
@[go_sem] theorem aggB64 : aggB Tryz.prog 139 = true := by kernel_rfl
@[go_sem] theorem aggDg : aggB Tryz.prog 83 = true := by kernel_rfl
@[go_sem] theorem aggHf : aggB Tryz.prog 58 = true := by kernel_rfl
@[go_sem] theorem aggHs : aggB Tryz.prog 141 = true := by kernel_rfl
@[go_sem] theorem cellsWd : Tryz.prog.cellsOf 138 = 8 := by kernel_rfl
@[go_sem] theorem cellsW16 : Tryz.prog.cellsOf 144 = 16 := by kernel_rfl
@[go_sem] theorem cellsB64 : Tryz.prog.cellsOf 139 = 64 := by kernel_rfl
@[go_sem] theorem cellsDg : Tryz.prog.cellsOf 83 = 32 := by kernel_rfl
@[go_sem] theorem cellsHf : Tryz.prog.cellsOf 58 = 16 := by kernel_rfl
@[go_sem] theorem cellsHs : Tryz.prog.cellsOf 141 = 73 := by kernel_rfl

def zWd : Wd := ⟨0, 0, 0, 0, 0, 0, 0, 0⟩
def zW16 : Vector UInt32 16 := Vector.replicate 16 0
def uL (l : List UInt8) : List Value := l.map cU
theorem uL_len (l : List UInt8) : (uL l).length = l.length := by simp [uL]
theorem uL_one (l : List UInt8) : oneB (uL l) = true := by
  simp only [oneB, uL, List.all_map, List.all_eq_true]; intro b _; rfl
theorem uL_at (l : List UInt8) (k : Nat) (h : k < l.length) : (uL l)[k]? = some (cU l[k]) := by
  unfold uL; rw [List.getElem?_map, List.getElem?_eq_getElem h]; rfl
theorem uL_set (l : List UInt8) (k : Nat) (x : UInt8) : (uL l).set k (cU x) = uL (l.set k x) := by
  unfold uL; rw [← List.map_set]
theorem uL_bC {n : Nat} (v : Vector UInt8 n) : uL v.toList = bC v := rfl
def zL32 : List UInt8 := List.replicate 32 0
def zL16 : List UInt8 := List.replicate 16 0
def zL64 : List UInt8 := List.replicate 64 0
/-- A hash: its state, its window, its length. -/
def hsC (st : Wd) (blk : List UInt8) (n : Int) : List Value := wdC st ++ (uL blk ++ [.int .i64 n])
@[go_sem ↓ high] theorem zeroWd (w : World) : Sem.run Tryz.prog (zeroValue 138) w = .ok (.agg (wdC zWd).toArray) w := by kernel_rfl
@[go_sem ↓ high] theorem zeroW16 (w : World) : Sem.run Tryz.prog (zeroValue 144) w = .ok (.agg (vW zW16).toArray) w := by kernel_rfl
@[go_sem ↓ high] theorem zeroDg (w : World) : Sem.run Tryz.prog (zeroValue 83) w = .ok (.agg (uL zL32).toArray) w := by kernel_rfl
@[go_sem ↓ high] theorem zeroHf (w : World) : Sem.run Tryz.prog (zeroValue 58) w = .ok (.agg (uL zL16).toArray) w := by kernel_rfl
@[go_sem ↓ high] theorem zeroA16 (w : World) : Sem.run Tryz.prog (zeroValue 29) w = .ok (.agg (uL zL16).toArray) w := by kernel_rfl
@[go_sem ↓ high] theorem zeroHs (w : World) : Sem.run Tryz.prog (zeroValue 141) w = .ok (.agg (hsC zWd zL64 0).toArray) w := by kernel_rfl

theorem bWd0 (x0 x1 x2 x3 x4 x5 x6 x7 : Int) (w : World) : (Instr.build 138 #[(0, .int .u32 x0), (1, .int .u32 x1), (2, .int .u32 x2), (3, .int .u32 x3), (4, .int .u32 x4), (5, .int .u32 x5), (6, .int .u32 x6), (7, .int .u32 x7)]).run Tryz.prog w = .ok (.agg #[.int .u32 x0, .int .u32 x1, .int .u32 x2, .int .u32 x3, .int .u32 x4, .int .u32 x5, .int .u32 x6, .int .u32 x7]) w := by kernel_rfl
@[go_sem] theorem bdWd (x0 x1 x2 x3 x4 x5 x6 x7 : Int) (w : World) : bdR Tryz.prog 138 #[(0, .int .u32 x0), (1, .int .u32 x1), (2, .int .u32 x2), (3, .int .u32 x3), (4, .int .u32 x4), (5, .int .u32 x5), (6, .int .u32 x6), (7, .int .u32 x7)] w = .ok (.value (.agg #[.int .u32 x0, .int .u32 x1, .int .u32 x2, .int .u32 x3, .int .u32 x4, .int .u32 x5, .int .u32 x6, .int .u32 x7])) w := bd_of (bWd0 x0 x1 x2 x3 x4 x5 x6 x7 w)
theorem bW80 (x0 x1 x2 x3 x4 x5 x6 x7 : Int) (w : World) : (Instr.build 171 #[(0, .int .u32 x0), (1, .int .u32 x1), (2, .int .u32 x2), (3, .int .u32 x3), (4, .int .u32 x4), (5, .int .u32 x5), (6, .int .u32 x6), (7, .int .u32 x7)]).run Tryz.prog w = .ok (.agg #[.int .u32 x0, .int .u32 x1, .int .u32 x2, .int .u32 x3, .int .u32 x4, .int .u32 x5, .int .u32 x6, .int .u32 x7]) w := by kernel_rfl
@[go_sem] theorem bdW8 (x0 x1 x2 x3 x4 x5 x6 x7 : Int) (w : World) : bdR Tryz.prog 171 #[(0, .int .u32 x0), (1, .int .u32 x1), (2, .int .u32 x2), (3, .int .u32 x3), (4, .int .u32 x4), (5, .int .u32 x5), (6, .int .u32 x6), (7, .int .u32 x7)] w = .ok (.value (.agg #[.int .u32 x0, .int .u32 x1, .int .u32 x2, .int .u32 x3, .int .u32 x4, .int .u32 x5, .int .u32 x6, .int .u32 x7])) w := bd_of (bW80 x0 x1 x2 x3 x4 x5 x6 x7 w)

theorem one_int (k : IntKind) (n : Int) : (Value.int k n).oneCell' = true := rfl
attribute [go_sem] wdC_length vW_length uL_len wd_one vW_one uL_one one_int oneB_cons oneB_nil
@[go_sem] theorem zL32_len : zL32.length = 32 := by unfold zL32; simp
@[go_sem] theorem zL16_len : zL16.length = 16 := by unfold zL16; simp
@[go_sem] theorem zL64_len : zL64.length = 64 := by unfold zL64; simp

/-! ### rotations -/
theorem rot_num : ∀ n : Fin 32, n.val ≠ 0 → bits .and .u64 (IntKind.u64.wrap (-(n.val : Int))) 31 = ((32 - n.val : Nat) : Int) := by decide +kernel
set_option maxHeartbeats 400000 in
theorem rotlC (x : UInt32) (n : Nat) (h0 : 0 < n) (h1 : n < 32) (w : World) : Calls Tryz.prog 112 #[.int .u32 (nW x), .int .i64 (-(n : Int))] w fun e w' => e = .returned (.int .u32 (nW (rr x (UInt32.ofNat n) (UInt32.ofNat (32 - n))))) ∧ w = w' := by
  obtain ⟨m, hm⟩ : ∃ m, 32 - n = m := ⟨_, rfl⟩
  have e1 : bits .and .u64 (IntKind.u64.wrap (-(n : Int))) 31 = (m : Int) := by rw [← hm]; exact rot_num ⟨n, h1⟩ (by show n ≠ 0; omega)
  have e2 : IntKind.u64.wrap (32 - (m : Int)) = (n : Int) := by rw [IntKind.wrap_u64]; omega
  have e3 := shl_w x m (by omega)
  have e4 := shr_w x n h1
  have m0 : (0 : Int) ≤ (m : Int) := by omega
  have m1 : (m : Int) ≤ 32 := by omega
  have n0 : (0 : Int) ≤ (n : Int) := by omega
  have n1 : (n : Int) ≤ 32 := by omega
  have HR := Lib.hid (rr_or x (UInt32.ofNat n) (UInt32.ofNat m))
  rw [hm]
  clear hm h0 h1
  go_enter Tryz.func112, Tryz.ntmps112
  go_wp2_with fail
  go_ret
  exact ⟨by rw [← HR.out]; rfl, rfl⟩
set_option maxHeartbeats 400000 in
theorem rotC (x : UInt32) (n : Nat) (h0 : 0 < n) (h1 : n < 32) (w : World) : Calls Tryz.prog 86 #[.int .u32 (nW x), .int .i64 (n : Int)] w fun e w' => e = .returned (.int .u32 (nW (rr x (UInt32.ofNat n) (UInt32.ofNat (32 - n))))) ∧ w = w' := by
  have HC := Lib.hid (rotlC x n h0 h1 w)
  have e1 : IntKind.i64.wrap (-(n : Int)) = -(n : Int) := by rw [IntKind.wrap_i64]; omega
  clear h0 h1
  go_enter Tryz.func86, Tryz.ntmps86
  go_wp2_with (go_at_call 112; refine HC.out.mono ?_; rintro e w' ⟨rfl, rfl⟩)
  go_ret
  exact ⟨rfl, rfl⟩
/-- .. in the second region. -/
theorem still_call2 {P : Program} {f : FuncId} {args : Array Value} {w : World} {m n : Nat} {v : Value}
    (h : Calls P f args (w.drewN (m + n)) fun e w' => e = .returned v ∧ w.drewN (m + n) = w') : Calls P f args (w.drewN (m + n)) fun e w'' => e = .returned v ∧ ∃ k, w'' = (w.drewN m).drewN k :=
  h.mono fun _ _ hh => ⟨hh.1, n, by rw [World.drewN_drewN]; exact hh.2.symm⟩
/-- A rotation by a number. -/
def rI (x : UInt32) (n : Int) : UInt32 := rr x (UInt32.ofNat n.toNat) (UInt32.ofNat (32 - n.toNat))
theorem rotI (x : UInt32) (n : Int) (w : World) (h0 : 0 < n) (h1 : n < 32) : Calls Tryz.prog 86 #[.int .u32 (nW x), .int .i64 n] w fun e w' => e = .returned (.int .u32 (nW (rI x n))) ∧ w = w' := by
  obtain ⟨k, rfl⟩ : ∃ k : Nat, n = (k : Int) := ⟨n.toNat, by omega⟩
  exact rotC x k (by omega) (by omega) w
end Go.Proofs.YteknmbijodbfoaaGreatDoor

namespace Go.Proofs.YteknmbijodbfoaaGreatDoor
open Go.RowKit

theorem wd_rnd (v : Wd) (k x : UInt32) : wdC (rnd v k x) = [cW (tR v k x + uR v), cW v.a, cW v.b, cW v.c, cW (v.d + tR v k x), cW v.e, cW v.f, cW v.g] := by unfold rnd; rfl
theorem t_rnd (v : Wd) (k x : UInt32) : tR v k x = v.i + (rI v.e 6 ^^^ rI v.e 11 ^^^ rI v.e 25) + (v.e &&& v.f ^^^ ~~~v.e &&& v.g) + k + x := by unfold tR S1R; rfl
theorem u_rnd (v : Wd) : uR v = (rI v.a 2 ^^^ rI v.a 13 ^^^ rI v.a 22) + (v.a &&& v.b ^^^ v.a &&& v.c ^^^ v.b &&& v.c) := by unfold uR S0R; rfl
/-- Words at the head of a block, cell by cell. -/
structure WdAt (W : World) (n : Nat) (v : Wd) : Prop where
  c0 : W.cell? ⟨n, 0, none⟩ = some (.int .u32 (nW v.a))
  c1 : W.cell? ⟨n, 1, none⟩ = some (.int .u32 (nW v.b))
  c2 : W.cell? ⟨n, 2, none⟩ = some (.int .u32 (nW v.c))
  c3 : W.cell? ⟨n, 3, none⟩ = some (.int .u32 (nW v.d))
  c4 : W.cell? ⟨n, 4, none⟩ = some (.int .u32 (nW v.e))
  c5 : W.cell? ⟨n, 5, none⟩ = some (.int .u32 (nW v.f))
  c6 : W.cell? ⟨n, 6, none⟩ = some (.int .u32 (nW v.g))
  c7 : W.cell? ⟨n, 7, none⟩ = some (.int .u32 (nW v.i))
theorem wd_block {W : World} {n T : Nat} {v : Wd} (h : W.heap[n]? = some (.cells (wdC v).toArray T (0, 0))) : WdAt W n v :=
  ⟨cell_block h 0, cell_block h 1, cell_block h 2, cell_block h 3, cell_block h 4, cell_block h 5, cell_block h 6, cell_block h 7⟩
theorem lt_of_heap {w : World} {b : Nat} {o : Obj} (h : w.heap[b]? = some o) : b < w.heap.size := (Array.getElem?_eq_some_iff.1 h).1
set_option maxRecDepth 100000 in
set_option maxHeartbeats 400000 in
theorem roundC (v : Wd) (k x : UInt32) (w : World) : Calls Tryz.prog 87 #[.agg (wdC v).toArray, .int .u32 (nW k), .int .u32 (nW x)] w fun e w' => e = .returned (.agg (wdC (rnd v k x)).toArray) ∧ Gr w w' := by
  have hr : Hid (∀ (x : UInt32) (n : Int) (w : World), 0 < n → n < 32 → Calls Tryz.prog 86 #[.int .u32 (nW x), .int .i64 n] w fun e w' => e = .returned (.int .u32 (nW (rI x n))) ∧ w = w') := fun x n w => rotI x n w
  have HR := Lib.hid (wd_rnd v k x)
  have HT := Lib.hid (t_rnd v k x)
  have HU := Lib.hid (u_rnd v)
  generalize rnd v k x = r at *
  generalize tR v k x = T at *
  generalize uR v = U at *
  obtain ⟨n, hn⟩ : ∃ n, w.heap.size = n := ⟨_, rfl⟩
  have HB : Hid (((w.alloc (.cells (wdC v).toArray 138)).alloc (.cells (wdC zWd).toArray 138)).heap[n]? = some (.cells (wdC v).toArray 138 (0, 0))) := (((Gr.refl _).alloc _).block (by first | omega | (simp; omega))).trans (heap_new _ _ _ (by first | omega | (simp; omega)))
  have HZ : Hid (((w.alloc (.cells (wdC v).toArray 138)).alloc (.cells (wdC zWd).toArray 138)).heap[n + 1]? = some (.cells (wdC zWd).toArray 138 (0, 0))) := heap_new _ _ _ (by first | omega | (simp; omega))
  have HG : Hid (Gr w ((w.alloc (.cells (wdC v).toArray 138)).alloc (.cells (wdC zWd).toArray 138))) := ((Gr.refl w).alloc _).alloc _
  have HN := Lib.hid hn
  go_enter Tryz.func87, Tryz.ntmps87
  go_wp2_with fail
  try simp only [hn]
  generalize (w.alloc (.cells (wdC v).toArray 138)).alloc (.cells (wdC zWd).toArray 138) = W0 at *
  clear hn
  obtain ⟨c0, c1, c2, c3, c4, c5, c6, c7⟩ := wd_block HB.out
  go_quiet ((go_at_call 86; exact still_call (hr.out _ _ _ (by decide) (by decide))))
  have HB1 : Hid ((W0.drewN nq).heap[n]? = some (.cells (wdC v).toArray 138 (0, 0))) := HB.out
  have HZ1 : Hid ((W0.drewN nq).heap[n + 1]? = some (.cells (wdC zWd).toArray 138 (0, 0))) := HZ.out
  have HG1 := Lib.hid (HG.out.drewN nq)
  clear c0 c1 c2 c3 c4 c5 c6 c7 HB HZ HG
  go_wp2_with fail
  generalize W0.drewN nq = W1 at *
  obtain ⟨c0, c1, c2, c3, c4, c5, c6, c7⟩ := wd_block HB1.out
  go_quiet ((go_at_call 86; exact still_call (hr.out _ _ _ (by decide) (by decide))))
  have HB2 : Hid ((W1.drewN nq).heap[n]? = some (.cells (wdC v).toArray 138 (0, 0))) := HB1.out
  have HZ2 : Hid ((W1.drewN nq).heap[n + 1]? = some (.cells (wdC zWd).toArray 138 (0, 0))) := HZ1.out
  have HG2 := Lib.hid (HG1.out.drewN nq)
  clear c0 c1 c2 c3 c4 c5 c6 c7 HB1 HZ1 HG1
  generalize W1.drewN nq = W2 at *
  obtain ⟨c0, c1, c2, c3, c4, c5, c6, c7⟩ := wd_block HB2.out
  have r0 := hasRow_block HZ2.out 0 8 (by simp [wdC_length])
  have r1 := freeRow_block HZ2.out 0 8
  have r2 := lt_of_heap HZ2.out
  have HE : Hid ((W2.setCells (n + 1) 0 (wdC r)).heap[n + 1]? = some (.cells (wdC r).toArray 138 (0, 0))) := sets_whole HZ2.out (by rw [wdC_length, wdC_length])
  have HE2 := Lib.hid (HG2.out.setsOwn (b := n + 1) (by have := HN.out; omega) (wdC r) 0)
  have HX : wdC r = [cW (T + U), cW v.a, cW v.b, cW v.c, cW (v.d + T), cW v.e, cW v.f, cW v.g] := HR.out
  rw [HT.out, HU.out] at HX
  unfold cW at HX
  have HX2 : Hid ((wdC r).toArray = _) := congrArg List.toArray HX
  rw [HX] at HE HE2
  clear HX HB2 HZ2 HG2
  go_wp2_with fail
  refine bodyPost_ret (results_cell_row rfl _ _ (n + 1) _ _ _ _ rfl HE.out Tryz.underlying138 rfl (by kernel_rfl)) rfl ?_
  exact ⟨by rw [HX2.out], HE2.out⟩
set_option maxRecDepth 100000 in
set_option maxHeartbeats 400000 in
theorem plusC (x y : Wd) (w : World) : Calls Tryz.prog 88 #[.agg (wdC x).toArray, .agg (wdC y).toArray] w fun e w' => e = .returned (.agg (wdC (plusW x y)).toArray) ∧ Gr w w' := by
  have HR : Hid (wdC (plusW x y) = [cW (x.a + y.a), cW (x.b + y.b), cW (x.c + y.c), cW (x.d + y.d), cW (x.e + y.e), cW (x.f + y.f), cW (x.g + y.g), cW (x.i + y.i)]) := rfl
  generalize plusW x y = r at *
  obtain ⟨a, b, c, d, e, f, g, i⟩ := x
  obtain ⟨a', b', c', d', e', f', g', i'⟩ := y
  unfold wdC cW at *
  go_enter Tryz.func88, Tryz.ntmps88
  go_wp2_with fail
  refine bodyPost_ret (results_cell_row rfl _ _ (w.heap.size + 1 + 1) _ _ _ _ rfl (heap_new _ _ _ (by simp)) Tryz.underlying138 rfl (by kernel_rfl)) rfl ?_
  exact ⟨by rw [HR.out], ((((Gr.refl w).alloc _).alloc _).alloc _)⟩
set_option maxRecDepth 100000 in
set_option maxHeartbeats 400000 in
theorem initialC (w : World) : Calls Tryz.prog 64 #[] w fun e w' => e = .returned (.agg (wdC ini).toArray) ∧ Gr w w' := by
  go_enter Tryz.func64, Tryz.ntmps64
  go_wp2_with fail
  refine bodyPost_ret (results_cell_row rfl _ _ w.heap.size _ _ _ _ rfl (heap_alloc_new w _) Tryz.underlying138 rfl (by kernel_rfl)) rfl ?_
  exact ⟨rfl, (Gr.refl w).alloc _⟩
end Go.Proofs.YteknmbijodbfoaaGreatDoor

namespace Go.Proofs.YteknmbijodbfoaaGreatDoor
open Go.RowKit

/-- The table of constants. -/
def Kt (w : World) : Prop := ∀ i, i < 64 → w.cell? ⟨3, i, none⟩ = some (cW (kN i))
theorem Kt.lt {w : World} (h : Kt w) : 3 < w.heap.size := World.block_lt_of_cell? w _ (h 0 (by decide))
theorem Kt.gr {w w' : World} (h : Kt w) (hg : Gr w w') : Kt w' := fun i hi => (hg.cell h.lt).trans (h i hi)
/-- The variables of process: the state ahead of the block, the window, the result, the variables. -/
structure PcAt (w : World) (n : Nat) (h : Wd) (p : Vector UInt32 16) (v : Wd) : Prop where
  h : w.heap[n]? = some (.cells (wdC h).toArray 138 (0, 0))
  p : w.heap[n + 1]? = some (.cells (vW p).toArray 144 (0, 0))
  r : w.heap[n + 2]? = some (.cells (wdC zWd).toArray 138 (0, 0))
  v : w.heap[n + 3]? = some (.cells (wdC v).toArray 138 (0, 0))
theorem PcAt.gr {w w' : World} {n : Nat} {h : Wd} {p : Vector UInt32 16} {v : Wd} (a : PcAt w n h p v) (hg : Gr w w') : PcAt w' n h p v :=
  ⟨(hg.block (lt_of_heap a.h)).trans a.h, (hg.block (lt_of_heap a.p)).trans a.p, (hg.block (lt_of_heap a.r)).trans a.r, (hg.block (lt_of_heap a.v)).trans a.v⟩
theorem PcAt.setV {w : World} {n : Nat} {h : Wd} {p : Vector UInt32 16} {v : Wd} (a : PcAt w n h p v) (v' : Wd) : PcAt (w.setCells (n + 3) 0 (wdC v')) n h p v' :=
  ⟨(sets_other (by omega) _ _ _).trans a.h, (sets_other (by omega) _ _ _).trans a.p, (sets_other (by omega) _ _ _).trans a.r, sets_whole a.v rfl⟩
theorem PcAt.setP {w : World} {n : Nat} {h : Wd} {p : Vector UInt32 16} {v : Wd} (a : PcAt w n h p v) (j : Nat) (hj : j < 16) (x : UInt32) : PcAt (w.setCell ⟨n + 1, j, none⟩ (cW x)) n h (p.set j x hj) v :=
  ⟨(heap_setCell_other w ⟨n + 1, j, none⟩ n _ (by show n ≠ n + 1; omega)).trans a.h, by rw [heap_setCell_same w (n + 1) j _ _ _ a.p, ← vW_set p j hj]; simp, (heap_setCell_other w ⟨n + 1, j, none⟩ (n + 2) _ (by show n + 2 ≠ n + 1; omega)).trans a.r, (heap_setCell_other w ⟨n + 1, j, none⟩ (n + 3) _ (by show n + 3 ≠ n + 1; omega)).trans a.v⟩
theorem PcAt.cell {w : World} {n : Nat} {h : Wd} {p : Vector UInt32 16} {v : Wd} (a : PcAt w n h p v) (j : Nat) (hj : j < 16) : w.cell? ⟨n + 1, j, none⟩ = some (.int .u32 (nW p[j])) := (cell_block a.p j).trans (vW_at p j hj)
theorem rem_num (t a : Nat) (h : t = a) : ((t : Int)).tmod 16 = ((a % 16 : Nat) : Int) := by subst h; rfl
/-- An index modulo sixteen. -/
structure Ix (e : Int) (j : Nat) : Prop where
  m : e.tmod 16 = (j : Int)
  r : e % 16 = (j : Int)
  w : IntKind.i64.wrap (j : Int) = (j : Int)
  lo : (0 : Int) ≤ (j : Int)
  hi : (j : Int) < 16
theorem ix_of {e : Int} {t : Nat} (h : e = (t : Int)) (_ht : t < 1000) : Ix e (t % 16) := by
  subst h
  exact ⟨rfl, by omega, by rw [IntKind.wrap_i64]; omega, by omega, by omega⟩
theorem PcAt.vf {w : World} {n : Nat} {h : Wd} {p : Vector UInt32 16} {v : Wd} (a : PcAt w n h p v) : hasRow w ⟨n + 3, 0, none⟩ 8 = true ∧ rowAt w ⟨n + 3, 0, none⟩ 8 = wdC v ∧ freeRow w ⟨n + 3, 0, none⟩ 8 = true ∧ n + 3 < w.heap.size :=
  ⟨hasRow_block a.v 0 8 (by simp [wdC_length]), (rowAt_block a.v 0 8 (by simp [wdC_length])).trans (rowOf_all _ _ (wdC_length _)), freeRow_block a.v 0 8, lt_of_heap a.v⟩
theorem PcAt.hf {w : World} {n : Nat} {h : Wd} {p : Vector UInt32 16} {v : Wd} (a : PcAt w n h p v) : hasRow w ⟨n, 0, none⟩ 8 = true ∧ rowAt w ⟨n, 0, none⟩ 8 = wdC h ∧ n < w.heap.size :=
  ⟨hasRow_block a.h 0 8 (by simp [wdC_length]), (rowAt_block a.h 0 8 (by simp [wdC_length])).trans (rowOf_all _ _ (wdC_length _)), lt_of_heap a.h⟩
theorem win_same (m : Nat → UInt32) (t : Nat) (h : ¬ 16 ≤ t) : winT m t = winT m (t + 1) := by
  have := winT_step m t; unfold pwin at this; rw [if_neg h] at this; exact this
theorem win_next (m : Nat → UInt32) (t a15 a2 a7 : Nat) (h : 16 ≤ t) (h15 : t = a15 + 15) (h2 : t = a2 + 2) (h7 : t = a7 + 7) (j0 j15 j2 j7 : Nat) (e0 : t % 16 = j0) (e15 : a15 % 16 = j15) (e2 : a2 % 16 = j2) (e7 : a7 % 16 = j7) (l0 : j0 < 16) (l15 : j15 < 16) (l2 : j2 < 16) (l7 : j7 < 16) :
    (winT m t).set j0 ((winT m t)[j0] + ((rI (winT m t)[j15] 7 ^^^ rI (winT m t)[j15] 18 ^^^ (winT m t)[j15] >>> 3) + (rI (winT m t)[j2] 17 ^^^ rI (winT m t)[j2] 19 ^^^ (winT m t)[j2] >>> 10) + (winT m t)[j7])) l0 = winT m (t + 1) := by
  have := winT_step m t
  unfold pwin at this
  rw [if_pos h] at this
  subst e0; subst e15; subst e2; subst e7
  obtain rfl : a15 = t - 15 := by omega
  obtain rfl : a2 = t - 2 := by omega
  obtain rfl : a7 = t - 7 := by omega
  exact this
theorem setCells_drewV (b : Nat) : ∀ (l : List Value) (k : Nat) (w : World), w.drew.setCells b k l = (w.setCells b k l).drew
  | [], _, _ => rfl
  | v :: l, k, w => by
    show (w.drew.setCell ⟨b, k, none⟩ v).setCells b (k + 1) l = ((w.setCell ⟨b, k, none⟩ v).setCells b (k + 1) l).drew
    exact setCells_drewV b l (k + 1) (w.setCell ⟨b, k, none⟩ v)
@[local go_sem ↓ high] theorem setCells_drewP (b : Nat) (l : List Value) (k : Nat) (w : World) : w.drew.setCells b k l = (w.setCells b k l).drew := setCells_drewV b l k w
set_option maxRecDepth 100000 in
set_option maxHeartbeats 1600000 in
theorem processC (h : Wd) (p : Vector UInt32 16) (m : Nat → UInt32) (hm : ∀ j (hj : j < 16), p[j] = m j) (w : World) (hK : Kt w) : Calls Tryz.prog 65 #[.agg (wdC h).toArray, .agg (vW p).toArray] w fun e w' => e = .returned (.agg (wdC (proc m h)).toArray) ∧ Gr w w' := by
  have HZ := Lib.hid (winT_zero m p hm)
  have HK := Lib.hid hK
  have HPR : Hid (proc m h = plusW h (rT m h 64)) := rfl
  have hr : Hid (∀ (x : UInt32) (n : Int) (w : World), 0 < n → n < 32 → Calls Tryz.prog 86 #[.int .u32 (nW x), .int .i64 n] w fun e w' => e = .returned (.int .u32 (nW (rI x n))) ∧ w = w') := fun x n w => rotI x n w
  clear hm hK
  generalize proc m h = res at *
  obtain ⟨n, hn⟩ : ∃ n, w.heap.size = n := ⟨_, rfl⟩
  have HN := Lib.hid hn
  go_enter Tryz.func65, Tryz.ntmps65
  go_wp2_with fail
  have HI : Hid (PcAt ((((w.alloc (.cells (wdC h).toArray 138)).alloc (.cells (vW p).toArray 144)).alloc (.cells (wdC zWd).toArray 138)).alloc (.cells (wdC h).toArray 138)) n h p h) := by
    refine ⟨?_, ?_, ?_, ?_⟩
    · exact (((((Gr.refl _).alloc _).alloc _).alloc _).block (by first | omega | (simp; omega))).trans (heap_new _ _ _ (by first | omega | (simp; omega)))
    · exact ((((Gr.refl _).alloc _).alloc _).block (by first | omega | (simp; omega))).trans (heap_new _ _ _ (by first | omega | (simp; omega)))
    · exact (((Gr.refl _).alloc _).block (by first | omega | (simp; omega))).trans (heap_new _ _ _ (by first | omega | (simp; omega)))
    · exact heap_new _ _ _ (by first | omega | (simp; omega))
  have HG0 : Hid (Gr w ((((w.alloc (.cells (wdC h).toArray 138)).alloc (.cells (vW p).toArray 144)).alloc (.cells (wdC zWd).toArray 138)).alloc (.cells (wdC h).toArray 138))) := ((((Gr.refl w).alloc _).alloc _).alloc _).alloc _
  generalize (((w.alloc (.cells (wdC h).toArray 138)).alloc (.cells (vW p).toArray 144)).alloc (.cells (wdC zWd).toArray 138)).alloc (.cells (wdC h).toArray 138) = W0 at *
  try simp only [hn]
  clear hn
  go_loopw [6, 7, 8, 9, 10, 12, 13, 14, 15, 16, 17, 18, 19, 20, 21, 22, 23, 24, 25, 26, 27, 28, 29, 30, 31, 32, 33, 34, 35, 36, 37, 38, 39, 40, 41, 42, 43, 44, 45, 46, 47, 48, 49, 50, 51, 52, 53, 54, 55, 56, 57, 58, 59, 60, 61, 62, 63, 64, 65, 66, 67] (fun _ _ _ _ _ i _ _ _ _ _ _ _ _ _ _ _ _ _ _ _ _ _ _ _ _ _ _ _ _ _ _ _ _ _ _ _ _ _ _ _ _ _ _ _ _ _ _ _ _ _ _ _ _ _ _ _ _ _ _ _ wr => ∃ t : Nat, t ≤ 64 ∧ i = .int .i64 t ∧ Hid (PcAt wr n h (winT m t) (rT m h t)) ∧ Hid (Gr w wr)) (fun _ _ _ _ _ i _ _ _ _ _ _ _ _ _ _ _ _ _ _ _ _ _ _ _ _ _ _ _ _ _ _ _ _ _ _ _ _ _ _ _ _ _ _ _ _ _ _ _ _ _ _ _ _ _ _ _ _ _ _ _ _ => 64 - (intOf i).toNat)
  case atStart => exact ⟨0, Nat.zero_le _, rfl, by rw [HZ.out]; exact HI.out, HG0.out⟩
  case round =>
    obtain ⟨t, ht, rfl, hA, hG⟩ := hrel
    by_cases hlt : t < 64
    · have hk1 : (t : Int) < 64 := by omega
      have hk2 : (0 : Int) ≤ (t : Int) := by omega
      obtain ⟨j0, e0⟩ : ∃ j, t % 16 = j := ⟨_, rfl⟩
      have l0 := lt_mod (by decide) e0
      have m0 : ((t : Int)).tmod 16 = (j0 : Int) := by rw [← e0]; rfl
      have m0' : (t : Int) % 16 = (j0 : Int) := modN e0
      have w0 := wrapN j0 (Nat.lt_trans l0 (by decide))
      have lo0 := zeN j0
      have hi0 : (j0 : Int) < 16 := ltN l0
      by_cases h16 : 16 ≤ t
      · have g16 : (16 : Int) ≤ (t : Int) := by omega
        obtain ⟨a15, h15⟩ : ∃ a, t = a + 15 := ⟨t - 15, by omega⟩
        obtain ⟨a2, h2⟩ : ∃ a, t = a + 2 := ⟨t - 2, by omega⟩
        obtain ⟨a7, h7⟩ : ∃ a, t = a + 7 := ⟨t - 7, by omega⟩
        obtain ⟨j15, e15⟩ : ∃ j, a15 % 16 = j := ⟨_, rfl⟩
        have l15 := lt_mod (by decide) e15
        have wa15 : IntKind.i64.wrap ((t : Int) - 15) = (a15 : Int) := wrapS t a15 15 h15 (Nat.lt_trans hlt (by decide))
        have m15 : ((a15 : Int)).tmod 16 = (j15 : Int) := by rw [← e15]; rfl
        have m15' : (a15 : Int) % 16 = (j15 : Int) := modN e15
        have w15 := wrapN j15 (Nat.lt_trans l15 (by decide))
        have lo15 := zeN j15
        have hi15 : (j15 : Int) < 16 := ltN l15
        have c15 := hA.out.cell j15 l15
        obtain ⟨j2, e2⟩ : ∃ j, a2 % 16 = j := ⟨_, rfl⟩
        have l2 := lt_mod (by decide) e2
        have wa2 : IntKind.i64.wrap ((t : Int) - 2) = (a2 : Int) := wrapS t a2 2 h2 (Nat.lt_trans hlt (by decide))
        have m2 : ((a2 : Int)).tmod 16 = (j2 : Int) := by rw [← e2]; rfl
        have m2' : (a2 : Int) % 16 = (j2 : Int) := modN e2
        have w2 := wrapN j2 (Nat.lt_trans l2 (by decide))
        have lo2 := zeN j2
        have hi2 : (j2 : Int) < 16 := ltN l2
        have c2 := hA.out.cell j2 l2
        obtain ⟨j7, e7⟩ : ∃ j, a7 % 16 = j := ⟨_, rfl⟩
        have l7 := lt_mod (by decide) e7
        have wa7 : IntKind.i64.wrap ((t : Int) - 7) = (a7 : Int) := wrapS t a7 7 h7 (Nat.lt_trans hlt (by decide))
        have m7 : ((a7 : Int)).tmod 16 = (j7 : Int) := by rw [← e7]; rfl
        have m7' : (a7 : Int) % 16 = (j7 : Int) := modN e7
        have w7 := wrapN j7 (Nat.lt_trans l7 (by decide))
        have lo7 := zeN j7
        have hi7 : (j7 : Int) < 16 := ltN l7
        have c7 := hA.out.cell j7 l7
        have c0 := hA.out.cell j0 l0
        have z1 := lt_of_heap hA.out.p
        have HS := Lib.hid (win_next m t a15 a2 a7 h16 h15 h2 h7 j0 j15 j2 j7 e0 e15 e2 e7 l0 l15 l2 l7)
        have E0 := Lib.hid e0
        clear h15 h2 h7 e0 e15 e2 e7
        obtain ⟨x15, hx15⟩ : ∃ x, (winT m t)[j15]'l15 = x := ⟨_, rfl⟩
        obtain ⟨x2, hx2⟩ : ∃ x, (winT m t)[j2]'l2 = x := ⟨_, rfl⟩
        obtain ⟨x7, hx7⟩ : ∃ x, (winT m t)[j7]'l7 = x := ⟨_, rfl⟩
        obtain ⟨x0, hx0⟩ : ∃ x, (winT m t)[j0]'l0 = x := ⟨_, rfl⟩
        have hx7' := Lib.hid hx7
        have hx0' := Lib.hid hx0
        rw [hx15] at c15
        rw [hx2] at c2
        rw [hx7] at c7
        rw [hx0] at c0
        rw [hx0, hx15, hx2, hx7] at HS
        clear hx15 hx2 hx7 hx0
        go_wp2_with fail
        go_quiet (fail)
        have HAq := Lib.hid (hA.out.gr ((Gr.refl wr).drewN nq))
        have HGq := Lib.hid (hG.out.drewN nq)
        have c0' := HAq.out.cell j0 l0
        have c7' := HAq.out.cell j7 l7
        rw [hx0'.out] at c0'
        rw [hx7'.out] at c7'
        have z1' := lt_of_heap HAq.out.p
        clear c15 c2 c7 c0 z1 hA hG
        generalize wr.drewN nq = V at *
        have f0' := free_block HAq.out.p j0
        have s15 : nW x15 / (8 : Int) = nW (x15 >>> 3) := shr3 x15
        have s2 := shr10 x2
        go_wp2_with (go_at_call 86; refine (hr.out _ _ _ (by decide) (by decide)).mono ?_; rintro e w' ⟨rfl, rfl⟩)
        refine wp_region_tail 14 (fun u => ∃ q : LD, u = lw V q) (by kernel_rfl) (by kernel_rfl) (cl_drew V) ?_
        simp only [List.take_succ_cons, List.take_zero, List.drop_succ_cons, List.drop_zero]
        repeat (go_big_quiet_step (fail))
        refine wpQuiet_nil ?_
        rintro _ ⟨q, rfl⟩
        have gV := (lay_lw V q).1
        have HA1 := Lib.hid (HAq.out.gr gV)
        have HG1 := Lib.hid (HGq.out.trans gV)
        clear gV c0' c7' f0' z1' HAq HGq
        generalize lw V q = V1 at *
        have f0 := free_block HA1.out.p j0
        have c0 := HA1.out.cell j0 l0
        rw [hx0'.out] at c0
        have z1 := lt_of_heap HA1.out.p
        have hA2 := Lib.hid (HA1.out.setP j0 l0 (x0 + ((rI x15 7 ^^^ rI x15 18 ^^^ x15 >>> 3) + (rI x2 17 ^^^ rI x2 19 ^^^ x2 >>> 10) + x7)))
        have HG2 := Lib.hid (HG1.out.setOwn (b := n + 1) (o := j0) (by have := HN.out; omega) (cW (x0 + ((rI x15 7 ^^^ rI x15 18 ^^^ x15 >>> 3) + (rI x2 17 ^^^ rI x2 19 ^^^ x2 >>> 10) + x7))))
        rw [HS.out] at hA2
        unfold cW at hA2 HG2
        clear HA1 HG1 HS hx7' hx0'
        go_wp2_with fail
        generalize V1.setCell _ _ = U at *
        have HKU := Lib.hid (HK.out.gr HG2.out)
        have e0 := E0.out
        clear f0 z1 c0
        have hf := hA2.out
        obtain ⟨b1, b2, b3, b4⟩ := hf.vf
        have c0 : U.cell? ⟨n + 1, j0, none⟩ = some (.int .u32 (nW (wT m t))) := by
          rw [hf.cell j0 l0]; subst e0; rw [winT_new]
        have z1 := lt_of_heap hf.p
        have k0 : U.cell? ⟨3, t, none⟩ = some (.int .u32 (nW (kN t))) := HKU.out t hlt
        have k1 := HKU.out.lt
        have HRD : Hid (rnd (rT m h t) (kN t) (wT m t) = rT m h (t + 1)) := rfl
        generalize kN t = kk at *
        generalize wT m t = ww at *
        generalize rT m h t = v at *
        generalize hp2 : winT m (t + 1) = p2 at *
        replace hp2 := Lib.hid hp2
        clear hf
        go_wp2_with fail
        refine wp_region_tail 8 (fun u => ∃ q : LD, u = lw U q) (by kernel_rfl) (by kernel_rfl) (cl_drew U) ?_
        simp only [List.take_succ_cons, List.take_zero, List.drop_succ_cons, List.drop_zero]
        repeat (go_big_quiet_step (fail))
        refine wpQuiet_nil ?_
        rintro _ ⟨q, rfl⟩
        have gU := (lay_lw U q).1
        have HA3 := Lib.hid (hA2.out.gr gU)
        have HG3 := Lib.hid (HG2.out.trans gU)
        clear gU b1 b2 b3 b4 c0 z1 k0 k1 hA2 HG2 HKU
        generalize lw U q = U3 at *
        go_wp2_with fail
        refine (roundC v kk ww U3).mono ?_
        rintro e U4 ⟨rfl, hg4⟩
        have HA4 := Lib.hid (HA3.out.gr hg4)
        have HG4 := Lib.hid (HG3.out.trans hg4)
        obtain ⟨b1, b2, b3, b4⟩ := HA4.out.vf
        have r1 := wdC_length (rnd v kk ww)
        have r2 := wd_one (rnd v kk ww)
        have HA5 : Hid (PcAt (U4.setCells (n + 3) 0 (wdC (rnd v kk ww))) n h (winT m (t + 1)) (rT m h (t + 1))) := by
          have hh := HA4.out.setV (rnd v kk ww)
          show PcAt _ _ _ _ _
          rw [← HRD.out, hp2.out]; exact hh
        have HG5 := Lib.hid (HG4.out.setsOwn (b := n + 3) (by have := HN.out; omega) (wdC (rnd v kk ww)) 0)
        clear hg4 HA3 HG3 HA4 HG4
        go_wp2_with fail
        go_roundw
        case rel => exact ⟨t + 1, by omega, by go_num, HA5.out, HG5.out⟩
        case measure => simp [intOf]; omega
      · have g16 : ¬ (16 : Int) ≤ (t : Int) := by omega
        have hA2 : Hid (PcAt wr n h (winT m (t + 1)) (rT m h t)) := by show PcAt _ _ _ _ _; rw [← win_same m t h16]; exact hA.out
        have HG2 := hG
        have HKU := Lib.hid (HK.out.gr hG.out)
        clear hA hG h16
        generalize wr = U at *
        have hf := hA2.out
        obtain ⟨b1, b2, b3, b4⟩ := hf.vf
        have c0 : U.cell? ⟨n + 1, j0, none⟩ = some (.int .u32 (nW (wT m t))) := by
          rw [hf.cell j0 l0]; subst e0; rw [winT_new]
        have z1 := lt_of_heap hf.p
        have k0 : U.cell? ⟨3, t, none⟩ = some (.int .u32 (nW (kN t))) := HKU.out t hlt
        have k1 := HKU.out.lt
        have HRD : Hid (rnd (rT m h t) (kN t) (wT m t) = rT m h (t + 1)) := rfl
        generalize kN t = kk at *
        generalize wT m t = ww at *
        generalize rT m h t = v at *
        generalize hp2 : winT m (t + 1) = p2 at *
        replace hp2 := Lib.hid hp2
        clear hf
        go_wp2_with fail
        refine wp_region_tail 8 (fun u => ∃ q : LD, u = lw U q) (by kernel_rfl) (by kernel_rfl) (cl_drew U) ?_
        simp only [List.take_succ_cons, List.take_zero, List.drop_succ_cons, List.drop_zero]
        repeat (go_big_quiet_step (fail))
        refine wpQuiet_nil ?_
        rintro _ ⟨q, rfl⟩
        have gU := (lay_lw U q).1
        have HA3 := Lib.hid (hA2.out.gr gU)
        have HG3 := Lib.hid (HG2.out.trans gU)
        clear gU b1 b2 b3 b4 c0 z1 k0 k1 hA2 HG2 HKU
        generalize lw U q = U3 at *
        go_wp2_with fail
        refine (roundC v kk ww U3).mono ?_
        rintro e U4 ⟨rfl, hg4⟩
        have HA4 := Lib.hid (HA3.out.gr hg4)
        have HG4 := Lib.hid (HG3.out.trans hg4)
        obtain ⟨b1, b2, b3, b4⟩ := HA4.out.vf
        have r1 := wdC_length (rnd v kk ww)
        have r2 := wd_one (rnd v kk ww)
        have HA5 : Hid (PcAt (U4.setCells (n + 3) 0 (wdC (rnd v kk ww))) n h (winT m (t + 1)) (rT m h (t + 1))) := by
          have hh := HA4.out.setV (rnd v kk ww)
          show PcAt _ _ _ _ _
          rw [← HRD.out, hp2.out]; exact hh
        have HG5 := Lib.hid (HG4.out.setsOwn (b := n + 3) (by have := HN.out; omega) (wdC (rnd v kk ww)) 0)
        clear hg4 HA3 HG3 HA4 HG4
        go_wp2_with fail
        go_roundw
        case rel => exact ⟨t + 1, by omega, by go_num, HA5.out, HG5.out⟩
        case measure => simp [intOf]; omega
    · have hk1 : ¬ (t : Int) < 64 := by omega
      obtain rfl : t = 64 := by omega
      have hf := hA.out
      obtain ⟨b1, b2, _, b4⟩ := hf.vf
      obtain ⟨d1, d2, d4⟩ := hf.hf
      have HPR2 : Hid (plusW h (rT m h 64) = res) := HPR.out.symm
      generalize rT m h 64 = v at *
      generalize winT m 64 = p2 at *
      have r1 := wdC_length (plusW h v)
      have r2 := wd_one (plusW h v)
      clear hf
      go_wp2_with (go_at_call 88; refine (plusC h v wr).mono ?_; rintro e U4 ⟨rfl, hg4⟩; have HAr := Lib.hid (hA.out.gr hg4).r; have f0 := hasRow_block HAr.out 0 8 (by simp [wdC_length]); have f1 := freeRow_block HAr.out 0 8; have f2 := lt_of_heap HAr.out; have HG4 := Lib.hid ((hG.out.trans hg4).setsOwn (b := n + 2) (by have := HN.out; omega) (wdC (plusW h v)) 0))
      have HE : Hid ((U4.setCells (n + 2) 0 (wdC (plusW h v))).heap[n + 2]? = some (.cells (wdC (plusW h v)).toArray 138 (0, 0))) := sets_whole HAr.out (by rw [wdC_length, wdC_length])
      refine bodyPost_ret (results_cell_row rfl _ _ (n + 2) _ _ _ _ rfl HE.out Tryz.underlying138 rfl (by kernel_rfl)) rfl ?_
      exact ⟨by rw [HPR2.out], HG4.out⟩
end Go.Proofs.YteknmbijodbfoaaGreatDoor

namespace Go.Proofs.YteknmbijodbfoaaGreatDoor
open Go.RowKit

theorem run_ix64 (l : List UInt8) (k : Nat) (hk : k < l.length) (h64 : l.length = 64) (w : World) : (Instr.index 139 (.agg (uL l).toArray) (.int .i64 (k : Int))).run Tryz.prog w = .ok (.int .u8 (l[k].toNat : Int)) w := by
  obtain ⟨v, rfl⟩ : ∃ v : Vector UInt8 64, v.toList = l := ⟨⟨l.toArray, by simp [h64]⟩, by simp⟩
  have hk' : k < 64 := h64 ▸ hk
  have h := run_indexA (n := 64) 139 Tryz.underlying139 v k hk' w
  have e : v.toList[k] = v[k] := Vector.getElem_toList _
  rw [e]; exact h
theorem z16_zero (l : List UInt8) : ldW l 0 = zW16 := ldW_zero l
set_option maxRecDepth 100000 in
set_option maxHeartbeats 1000000 in
theorem loadC (l : List UInt8) (hl : l.length = 64) (w : World) : Calls Tryz.prog 66 #[.agg (uL l).toArray] w fun e w' => e = .returned (.agg (vW (ldW l 64)).toArray) ∧ Gr w w' := by
  have HL := Lib.hid hl
  have HZ := Lib.hid (z16_zero l)
  obtain ⟨n, hn⟩ : ∃ n, w.heap.size = n := ⟨_, rfl⟩
  have hl1 : (uL l).length = 64 := by rw [uL_len, hl]
  have HI : Hid ((((w.alloc (.cells (uL l).toArray 139)).alloc (.cells (vW zW16).toArray 144)).alloc (.cells (vW zW16).toArray 144)).heap[n + 2]? = some (.cells (vW (ldW l 0)).toArray 144 (0, 0))) := by
    rw [z16_zero]; exact heap_new _ _ _ (by simp; omega)
  have HJ : Hid ((((w.alloc (.cells (uL l).toArray 139)).alloc (.cells (vW zW16).toArray 144)).alloc (.cells (vW zW16).toArray 144)).heap[n + 1]? = some (.cells (vW zW16).toArray 144 (0, 0))) :=
    (((Gr.refl _).alloc _).block (by simp; omega)).trans (heap_new _ _ _ (by simp; omega))
  have HG : Hid (Gr w (((w.alloc (.cells (uL l).toArray 139)).alloc (.cells (vW zW16).toArray 144)).alloc (.cells (vW zW16).toArray 144))) := (((Gr.refl w).alloc _).alloc _).alloc _
  have HN : Hid (w.heap.size = n) := hn
  clear hl
  go_enter Tryz.func66, Tryz.ntmps66
  go_wp2_with fail
  generalize ((w.alloc (.cells (uL l).toArray 139)).alloc (.cells (vW zW16).toArray 144)).alloc (.cells (vW zW16).toArray 144) = W0 at *
  try rw [hn]
  clear hn
  go_loopw [4, 5, 7, 8, 9, 10, 11, 12, 13, 14, 15, 16, 17, 18, 19, 20, 21, 22] (fun _ _ i _ _ _ _ _ _ _ _ _ _ _ _ _ _ _ wr => ∃ k : Nat, k ≤ 64 ∧ i = .int .i64 k ∧ Hid (wr.heap[n + 2]? = some (.cells (vW (ldW l k)).toArray 144 (0, 0))) ∧ Hid (wr.heap[n + 1]? = some (.cells (vW zW16).toArray 144 (0, 0))) ∧ Hid (Gr w wr)) (fun _ _ i _ _ _ _ _ _ _ _ _ _ _ _ _ _ _ _ => 64 - (intOf i).toNat)
  case atStart => exact ⟨0, Nat.zero_le _, rfl, HI.out, HJ.out, HG.out⟩
  case round =>
    obtain ⟨k, hk, rfl, hA, hZ, hG⟩ := hrel
    by_cases hlt : k < 64
    · have hk1 : (k : Int) < 64 := by omega
      have hk2 : (0 : Int) ≤ (k : Int) := by omega
      have hix := run_ix64 l k (by rw [HL.out]; exact hlt) HL.out
      have HS := Lib.hid (ldW_step l k hlt)
      have hgd : l.getD k 0 = l[k]'(by rw [HL.out]; exact hlt) := by rw [List.getD_eq_getElem?_getD, List.getElem?_eq_getElem (by rw [HL.out]; exact hlt)]; rfl
      rw [hgd] at HS
      generalize l[k]'(by rw [HL.out]; exact hlt) = x at *
      obtain ⟨j, hj⟩ : ∃ j, k / 4 = j := ⟨_, rfl⟩
      have hj16 : j < 16 := by omega
      have hq : (k : Int) / 4 = (j : Int) := by omega
      have hq' : (k : Int).tdiv 4 = (j : Int) := by rw [← hj]; rfl
      have hj1 : (j : Int) < 16 := by omega
      have hj2 : (0 : Int) ≤ (j : Int) := by omega
      have hwj : IntKind.i64.wrap (j : Int) = (j : Int) := by rw [IntKind.wrap_i64]; omega
      have c0 : wr.cell? ⟨n + 2, j, none⟩ = some (.int .u32 (nW ((ldW l k)[j]'hj16))) := (cell_block hA.out j).trans (vW_at _ j hj16)
      have f0 := free_block hA.out j
      have z0 := lt_of_heap hA.out
      have HS' : Hid ((ldW l k).set j ((ldW l k)[j] <<< 8 ||| x.toUInt32) hj16 = ldW l (k + 1)) := by subst hj; exact HS.out
      have HW : Hid ((wr.setCell ⟨n + 2, j, none⟩ (cW ((ldW l k)[j] <<< 8 ||| x.toUInt32))).heap[n + 2]? = some (.cells (vW (ldW l (k + 1))).toArray 144 (0, 0))) := by
        show _ = _
        rw [heap_setCell_same wr (n + 2) j _ _ _ hA.out, ← HS'.out, ← vW_set _ j hj16]; simp
      have HZ1 : Hid ((wr.setCell ⟨n + 2, j, none⟩ (cW ((ldW l k)[j] <<< 8 ||| x.toUInt32))).heap[n + 1]? = some (.cells (vW zW16).toArray 144 (0, 0))) := (heap_setCell_other wr ⟨n + 2, j, none⟩ (n + 1) _ (by show n + 1 ≠ n + 2; omega)).trans hZ.out
      have HG1 := Lib.hid (hG.out.setOwn (b := n + 2) (o := j) (by have := HN.out; omega) (cW ((ldW l k)[j] <<< 8 ||| x.toUInt32)))
      unfold cW at HW HZ1 HG1
      clear hgd HS HS' hA hZ hG hj
      generalize (ldW l k)[j] = y at *
      go_wp2_with fail
      go_roundw
      case rel => exact ⟨k + 1, by omega, by go_num, HW.out, HZ1.out, HG1.out⟩
      case measure => simp [intOf]; omega
    · have hk1 : ¬ (k : Int) < 64 := by omega
      obtain rfl : k = 64 := by omega
      have r0 := hasRow_block hA.out 0 16 (by simp [vW_length])
      have q0 : rowAt wr ⟨n + 2, 0, none⟩ 16 = vW (ldW l 64) := (rowAt_block hA.out 0 16 (by simp [vW_length])).trans (rowOf_all _ _ (vW_length _))
      have r1 := hasRow_block hZ.out 0 16 (by simp [vW_length])
      have r2 := freeRow_block hZ.out 0 16
      have r3 := vW_length (ldW l 64)
      have r4 := vW_one (ldW l 64)
      have HE : Hid ((wr.setCells (n + 1) 0 (vW (ldW l 64))).heap[n + 1]? = some (.cells (vW (ldW l 64)).toArray 144 (0, 0))) := sets_whole hZ.out (by rw [vW_length, vW_length])
      have HG1 := Lib.hid (hG.out.setsOwn (b := n + 1) (by have := HN.out; omega) (vW (ldW l 64)) 0)
      clear hA hZ hG
      go_wp2_with fail
      refine bodyPost_ret (results_cell_row rfl _ _ (n + 1) _ _ _ _ rfl HE.out Tryz.underlying144 rfl (by kernel_rfl)) rfl ?_
      exact ⟨rfl, HG1.out⟩

/-! ### digest -/
theorem toB (x : UInt32) : IntKind.u8.wrap (nW x) = (x.toUInt8.toNat : Int) := by
  unfold nW; rw [IntKind.wrap_u8, UInt32.toNat_toUInt8]; omega
theorem run_ix8 (s : Wd) (i : Nat) (h : i < 8) (w : World) : (Instr.index 171 (.agg #[.int .u32 (nW s.a), .int .u32 (nW s.b), .int .u32 (nW s.c), .int .u32 (nW s.d), .int .u32 (nW s.e), .int .u32 (nW s.f), .int .u32 (nW s.g), .int .u32 (nW s.i)]) (.int .i64 (i : Int))).run Tryz.prog w = .ok (.int .u32 (nW ((wdL s)[i]'h))) w := by
  have h8 : i = 0 ∨ i = 1 ∨ i = 2 ∨ i = 3 ∨ i = 4 ∨ i = 5 ∨ i = 6 ∨ i = 7 := by omega
  rcases h8 with rfl | rfl | rfl | rfl | rfl | rfl | rfl | rfl
  · show _ = Result.ok (Value.int IntKind.u32 (nW s.a)) w; kernel_rfl
  · show _ = Result.ok (Value.int IntKind.u32 (nW s.b)) w; kernel_rfl
  · show _ = Result.ok (Value.int IntKind.u32 (nW s.c)) w; kernel_rfl
  · show _ = Result.ok (Value.int IntKind.u32 (nW s.d)) w; kernel_rfl
  · show _ = Result.ok (Value.int IntKind.u32 (nW s.e)) w; kernel_rfl
  · show _ = Result.ok (Value.int IntKind.u32 (nW s.f)) w; kernel_rfl
  · show _ = Result.ok (Value.int IntKind.u32 (nW s.g)) w; kernel_rfl
  · show _ = Result.ok (Value.int IntKind.u32 (nW s.i)) w; kernel_rfl
set_option maxRecDepth 100000 in
set_option maxHeartbeats 1000000 in
theorem digestC (s : Wd) (w : World) : Calls Tryz.prog 67 #[.agg (wdC s).toArray] w fun e w' => e = .returned (.agg (uL (digL s)).toArray) ∧ Gr w w' := by
  have HIX := run_ix8 s
  have HD : Hid (∀ i k, ∀ (hi : i < 8), k < 4 → (digL s)[4 * i + k]? = some (((wdL s)[i]'hi) >>> (UInt32.ofNat (24 - 8 * k))).toUInt8) := fun i k hi hk => dig_at s i k hi hk
  have HL : Hid ((digL s).length = 32) := digL_len s
  have HL8 : Hid ((wdL s).length = 8) := rfl
  generalize digL s = D at *
  obtain ⟨n, hn⟩ : ∃ n, w.heap.size = n := ⟨_, rfl⟩
  have HN : Hid (w.heap.size = n) := hn
  have HI : Hid ((((w.alloc (.cells (wdC s).toArray 138)).alloc (.cells (uL zL32).toArray 83)).alloc (.cells (uL zL32).toArray 83)).heap[n + 2]? = some (.cells (uL (zp D 0)).toArray 83 (0, 0))) := by
    rw [show zp D 0 = zL32 from rfl]; exact heap_new _ _ _ (by first | omega | (simp; omega))
  have HJ : Hid ((((w.alloc (.cells (wdC s).toArray 138)).alloc (.cells (uL zL32).toArray 83)).alloc (.cells (uL zL32).toArray 83)).heap[n + 1]? = some (.cells (uL zL32).toArray 83 (0, 0))) :=
    (((Gr.refl _).alloc _).block (by first | omega | (simp; omega))).trans (heap_new _ _ _ (by first | omega | (simp; omega)))
  have HB : Hid ((((w.alloc (.cells (wdC s).toArray 138)).alloc (.cells (uL zL32).toArray 83)).alloc (.cells (uL zL32).toArray 83)).heap[n]? = some (.cells (wdC s).toArray 138 (0, 0))) :=
    ((((Gr.refl _).alloc _).alloc _).block (by first | omega | (simp; omega))).trans (heap_new _ _ _ (by first | omega | (simp; omega)))
  have HG : Hid (Gr w (((w.alloc (.cells (wdC s).toArray 138)).alloc (.cells (uL zL32).toArray 83)).alloc (.cells (uL zL32).toArray 83))) := (((Gr.refl w).alloc _).alloc _).alloc _
  have HW : wdC s = [.int .u32 (nW s.a), .int .u32 (nW s.b), .int .u32 (nW s.c), .int .u32 (nW s.d), .int .u32 (nW s.e), .int .u32 (nW s.f), .int .u32 (nW s.g), .int .u32 (nW s.i)] := rfl
  have HB' : Hid (∀ W : World, W.heap[n]? = some (.cells (wdC s).toArray 138 (0, 0)) → WdAt W n s) := fun W h => wd_block h
  rw [HW] at HI HJ HB HG HB' ⊢
  clear HW
  go_enter Tryz.func67, Tryz.ntmps67
  go_wp2_with fail
  generalize ((w.alloc _).alloc _).alloc _ = W0 at *
  clear HB HB' hn HL8
  go_loopw [4, 5, 6, 24, 25, 26, 27, 28, 29, 30, 31, 32, 33, 34, 35, 36, 37, 38, 39, 40, 41, 42, 43] (fun _ _ _ i _ _ _ _ _ _ _ _ _ _ _ _ _ _ _ _ _ _ _ wr => ∃ k : Nat, k ≤ 8 ∧ i = .int .i64 k ∧ Hid (wr.heap[n + 2]? = some (.cells (uL (zp D (4 * k))).toArray 83 (0, 0))) ∧ Hid (wr.heap[n + 1]? = some (.cells (uL zL32).toArray 83 (0, 0))) ∧ Hid (Gr w wr)) (fun _ _ _ i _ _ _ _ _ _ _ _ _ _ _ _ _ _ _ _ _ _ _ _ => 8 - (intOf i).toNat)
  case atStart => exact ⟨0, Nat.zero_le _, rfl, HI.out, HJ.out, HG.out⟩
  case round =>
    obtain ⟨i, hi, rfl, hA, hZ, hG⟩ := hrel
    by_cases hlt : i < 8
    · have hi1 : (i : Int) < 8 := by omega
      have hi2 : (0 : Int) ≤ (i : Int) := by omega
      have hix := HIX i hlt
      have HDi : Hid (∀ k, k < 4 → D[4 * i + k]? = some (((wdL s)[i]'hlt) >>> (UInt32.ofNat (24 - 8 * k))).toUInt8) := fun k hk => HD.out i k hlt hk
      generalize (wdL s)[i] = x at *
      have hm : IntKind.i64.wrap (4 * (i : Int)) = ((4 * i : Nat) : Int) := by rw [IntKind.wrap_i64]; omega
      obtain ⟨b, hb⟩ : ∃ b, 4 * i = b := ⟨_, rfl⟩
      rw [hb] at hA HDi hm
      have hb32 : b + 4 ≤ 32 := by omega
      clear HIX
      go_wp2_with fail
      generalize wr = wr0 at *
      go_loopw [6, 28, 29, 30, 31, 32, 33, 34, 35, 36, 37, 38, 39, 40, 41, 42] (fun _ j _ _ _ _ _ _ _ _ _ _ _ _ _ _ wr => ∃ k : Nat, k ≤ 4 ∧ j = .int .i64 k ∧ Hid (wr.heap[n + 2]? = some (.cells (uL (zp D (b + k))).toArray 83 (0, 0))) ∧ Hid (wr.heap[n + 1]? = some (.cells (uL zL32).toArray 83 (0, 0))) ∧ Hid (Gr w wr)) (fun _ j _ _ _ _ _ _ _ _ _ _ _ _ _ _ _ => 4 - (intOf j).toNat)
      case atStart => exact ⟨0, Nat.zero_le _, rfl, hA.out, hZ.out, hG.out⟩
      case round =>
        obtain ⟨k, hk, rfl, hA1, hZ1, hG1⟩ := hrel
        by_cases hlt1 : k < 4
        · have hk1 : (k : Int) < 4 := by omega
          have hk2 : (0 : Int) ≤ (k : Int) := by omega
          obtain ⟨kk, hkk⟩ : ∃ kk, 8 * k = kk := ⟨_, rfl⟩
          have e1 : IntKind.i64.wrap (8 * (k : Int)) = (kk : Int) := by rw [IntKind.wrap_i64]; omega
          obtain ⟨q, hq⟩ : ∃ q, 24 - 8 * k = q := ⟨_, rfl⟩
          have e2 : IntKind.i64.wrap (24 - (kk : Int)) = (q : Int) := by rw [IntKind.wrap_i64]; omega
          have e3 := shr_w x q (by omega)
          have q0 : (0 : Int) ≤ (q : Int) := by omega
          have q1 : (q : Int) ≤ 32 := by omega
          obtain ⟨j, hj⟩ : ∃ j, b + k = j := ⟨_, rfl⟩
          have e4 : IntKind.i64.wrap ((b : Int) + (k : Int)) = (j : Int) := by rw [IntKind.wrap_i64]; omega
          have j0 : (0 : Int) ≤ (j : Int) := by omega
          have j1 : (j : Int) < 32 := by omega
          have j2 : j < 32 := by omega
          rw [hj] at hA1
          have hd := HDi.out k hlt1
          rw [hj, hq] at hd
          have e5 := toB (x >>> UInt32.ofNat q)
          generalize (x >>> UInt32.ofNat q).toUInt8 = y at *
          have HS : Hid ((zp D j).set j y = zp D (b + (k + 1))) := by show _ = _; rw [zp_set D j HL.out j2 y hd]; congr 1; omega
          obtain ⟨y0, c0⟩ : ∃ y0 : UInt8, wr.cell? ⟨n + 2, j, none⟩ = some (.int .u8 (y0.toNat : Int)) := ⟨_, (cell_block hA1.out j).trans (uL_at _ j (by rw [zp_len _ _ HL.out (by omega)]; omega))⟩
          have f0 := free_block hA1.out j
          have z0 := lt_of_heap hA1.out
          have HW : Hid ((wr.setCell ⟨n + 2, j, none⟩ (cU y)).heap[n + 2]? = some (.cells (uL (zp D (b + (k + 1)))).toArray 83 (0, 0))) := by
            show _ = _
            rw [heap_setCell_same wr (n + 2) j _ _ _ hA1.out, ← HS.out, ← uL_set]; simp
          have HZ1 : Hid ((wr.setCell ⟨n + 2, j, none⟩ (cU y)).heap[n + 1]? = some (.cells (uL zL32).toArray 83 (0, 0))) := (heap_setCell_other wr ⟨n + 2, j, none⟩ (n + 1) _ (by show n + 1 ≠ n + 2; omega)).trans hZ1.out
          have HG1 := Lib.hid (hG1.out.setOwn (b := n + 2) (o := j) (by have := HN.out; omega) (cU y))
          unfold cU at HW HZ1 HG1
          clear hd HS hA1 hZ1 hG1 hj hq hkk
          go_wp2_with fail
          go_roundw
          case rel => exact ⟨k + 1, by omega, by go_num, HW.out, HZ1.out, HG1.out⟩
          case measure => simp [intOf]; omega
        · obtain rfl : k = 4 := by omega
          have HA2 : Hid (wr.heap[n + 2]? = some (.cells (uL (zp D (4 * (i + 1)))).toArray 83 (0, 0))) := by
            show _ = _
            rw [hA1.out, show b + 4 = 4 * (i + 1) by omega]
          clear hA1
          go_wp2_with fail
          go_roundw
          case rel => exact ⟨i + 1, by omega, by go_num, HA2.out, hZ1.out, hG1.out⟩
          case measure => simp [intOf]; omega
    · have hi1 : ¬ (i : Int) < 8 := by omega
      obtain rfl : i = 8 := by omega
      have hD : zp D (4 * 8) = D := zp_all D HL.out
      rw [hD] at hA
      have hl : (uL D).length = 32 := by rw [uL_len]; exact HL.out
      have r0 := hasRow_block hA.out 0 32 (by simp [hl])
      have q0 : rowAt wr ⟨n + 2, 0, none⟩ 32 = uL D := (rowAt_block hA.out 0 32 (by simp [hl])).trans (rowOf_all _ _ hl)
      have r1 := hasRow_block hZ.out 0 32 (by simp [uL_len, zL32_len])
      have r2 := freeRow_block hZ.out 0 32
      have r4 := uL_one D
      have HE : Hid ((wr.setCells (n + 1) 0 (uL D)).heap[n + 1]? = some (.cells (uL D).toArray 83 (0, 0))) := sets_whole hZ.out (by rw [hl, uL_len, zL32_len])
      have HG1 := Lib.hid (hG.out.setsOwn (b := n + 1) (by have := HN.out; omega) (uL D) 0)
      clear hA hZ hG hD
      go_wp2_with fail
      refine bodyPost_ret (results_cell_row rfl _ _ (n + 1) _ _ _ _ rfl HE.out Tryz.underlying83 rfl (by kernel_rfl)) rfl ?_
      exact ⟨rfl, HG1.out⟩
end Go.Proofs.YteknmbijodbfoaaGreatDoor

namespace Go.Proofs.YteknmbijodbfoaaGreatDoor
open Go.RowKit

theorem wpList_copy_u8 (w : World) {ops : Array Oper} {rest : List Oper} {o : Oper} {a : Act} {Q : Exit → Act → World → Prop} (hgd : o.guard = none) (s x : Operand)
    (ho : o.op = .call { callee := .builtin .copy, args := #[s, x], argTypes := #[60, 60] }) (b k dl dc g oo sl sc : Nat) (hs : a.eval s = .slice (some ⟨b, k, none⟩) dl dc) (hx : a.eval x = .slice (some ⟨g, oo, none⟩) sl sc)
    (l : List UInt8) (hl : l.length = Nat.min sl dl) (hsrc : ByAt w g oo l) (hr : hasRow w ⟨b, k, none⟩ l.length = true) (hf : freeRow w ⟨b, k, none⟩ l.length = true)
    (h : wpList Tryz.prog ops Q rest (a.put o.dst (.int .i64 (l.length : Int))) (w.setCells b k (uL l))) : wpList Tryz.prog ops Q (o :: rest) a w := by
  obtain ⟨i, z, h1, h2, h3, h4, h5⟩ := infoU
  refine wpList_plain hgd fun K hK => ?_
  have hrun := run_copy_cells (P := Tryz.prog) w 60 60 o.type 5 b k dl dc ⟨g, oo, none⟩ sl sc (uL l) Tryz.underlying60 (by rw [h1]; simp [h3]) (by rw [uL_len, hl])
    (fun j v hj => by
      unfold uL at hj
      rw [List.getElem?_map] at hj
      obtain ⟨y, hy, rfl⟩ := Option.map_eq_some_iff.1 hj
      rw [Addr.add_lit]; exact hsrc.2 j y hy)
    (fun j hj => by rw [uL_len] at hj; have := hasRow_iff.1 hr j hj; rwa [Addr.add_lit] at this)
    (fun j hj => by rw [uL_len] at hj; have := freeRow_iff.1 hf j hj; rwa [Addr.add_lit] at this)
    (fun v hv => by have := List.all_eq_true.1 (uL_one l) v hv; simpa using this)
  rw [uL_len] at hrun
  unfold Oper.wp execOp
  simp only [ho, resolve, invoke, builtin, Sem.run_bind, Sem.run_pure, Result.andThen_ok, List.map_toArray, List.map_cons, List.map_nil, hs, hx, hrun]
  exact hK _ _ h
/-- A hash in block b. -/
def HsAt (W : World) (b : Nat) (st : Wd) (blk : List UInt8) (n : Int) : Prop := W.heap[b]? = some (.cells (hsC st blk n).toArray 141 (0, 0))
theorem hs_len (st : Wd) (blk : List UInt8) (n : Int) (hb : blk.length = 64) : (hsC st blk n).length = 73 := by
  unfold hsC; simp [wdC_length, uL_len, hb]
theorem hs_n (st : Wd) (blk : List UInt8) (n : Int) (hb : blk.length = 64) : (hsC st blk n)[72]? = some (.int .i64 n) := by
  unfold hsC; rw [get_app_r _ _ _ 8 rfl (by decide), get_app_r _ _ _ 64 (by rw [uL_len, hb]) (by decide)]; rfl
theorem hs_st (st : Wd) (blk : List UInt8) (n : Int) : rowOf (hsC st blk n) 0 8 = wdC st := by
  unfold hsC; exact rowOf_app_l _ _ _ (wdC_length _)
theorem hs_blk (st : Wd) (blk : List UInt8) (n : Int) (hb : blk.length = 64) : rowOf (hsC st blk n) 8 64 = uL blk := by
  unfold hsC; rw [rowOf_app_r _ _ _ _ 8 rfl (by decide)]; exact rowOf_app_l _ _ _ (by rw [uL_len, hb])
theorem HsAt.setN {W : World} {b : Nat} {st : Wd} {blk : List UInt8} {n : Int} (h : HsAt W b st blk n) (hb : blk.length = 64) (m : Int) : HsAt (W.setCell ⟨b, 72, none⟩ (.int .i64 m)) b st blk m := by
  unfold HsAt at *
  rw [heap_setCell_same W b 72 _ _ _ h]
  have : (hsC st blk n).set 72 (.int .i64 m) = hsC st blk m := by
    unfold hsC
    rw [List.set_append_right _ _ (by rw [wdC_length]; decide), List.set_append_right _ _ (by rw [uL_len, hb, wdC_length]; decide), uL_len, hb, wdC_length]
    rfl
  rw [← this]; simp
theorem HsAt.setSt {W : World} {b : Nat} {st : Wd} {blk : List UInt8} {n : Int} (h : HsAt W b st blk n) (st' : Wd) : HsAt (W.setCells b 0 (wdC st')) b st' blk n := by
  unfold HsAt hsC at *
  have := sets_block b 141 (uL blk ++ [.int .i64 n]) (wdC st') [] (wdC st) W rfl (by simpa using h)
  simpa using this
theorem HsAt.setB {W : World} {b : Nat} {st : Wd} {blk : List UInt8} {n : Int} (h : HsAt W b st blk n) (hb : blk.length = 64) (r : Nat) (c : List UInt8) (hr : r + c.length ≤ 64) : HsAt (W.setCells b (8 + r) (uL c)) b st (putW blk r c) n := by
  unfold HsAt at *
  have e : hsC st blk n = (wdC st ++ uL (blk.take r)) ++ (uL ((blk.drop r).take c.length) ++ (uL (blk.drop (r + c.length)) ++ [.int .i64 n])) := by
    unfold hsC uL
    have : blk = blk.take r ++ ((blk.drop r).take c.length ++ blk.drop (r + c.length)) := by
      rw [← List.drop_drop, List.take_append_drop, List.take_append_drop]
    conv => lhs; rw [this]
    simp
  rw [e] at h
  have := sets_block b 141 (uL (blk.drop (r + c.length)) ++ [.int .i64 n]) (uL c) (wdC st ++ uL (blk.take r)) (uL ((blk.drop r).take c.length)) W (by simp [uL_len]; omega) h
  have e2 : (wdC st ++ uL (blk.take r)).length = 8 + r := by rw [List.length_append, wdC_length, uL_len, List.length_take]; omega
  rw [e2] at this
  rw [this]
  unfold hsC putW uL
  simp
structure HsFacts (W : World) (b : Nat) (st : Wd) (blk : List UInt8) (n : Int) : Prop where
  c : W.cell? ⟨b, 72, none⟩ = some (.int .i64 n)
  f : W.frozen? ⟨b, 72, none⟩ = false
  h0 : hasRow W ⟨b, 0, none⟩ 8 = true
  r0 : rowAt W ⟨b, 0, none⟩ 8 = wdC st
  f0 : freeRow W ⟨b, 0, none⟩ 8 = true
  h1 : hasRow W ⟨b, 8, none⟩ 64 = true
  r1 : rowAt W ⟨b, 8, none⟩ 64 = uL blk
  z : b < W.heap.size
theorem HsAt.facts {W : World} {b : Nat} {st : Wd} {blk : List UInt8} {n : Int} (h : HsAt W b st blk n) (hb : blk.length = 64) : HsFacts W b st blk n :=
  ⟨(cell_block h 72).trans (hs_n _ _ _ hb), free_block h 72, hasRow_block h 0 8 (by rw [hs_len _ _ _ hb]; decide), (rowAt_block h 0 8 (by rw [hs_len _ _ _ hb]; decide)).trans (hs_st _ _ _), freeRow_block h 0 8, hasRow_block h 8 64 (by rw [hs_len _ _ _ hb]; decide), (rowAt_block h 8 64 (by rw [hs_len _ _ _ hb]; decide)).trans (hs_blk _ _ _ hb), lt_of_heap h⟩
theorem HsAt.gr {W W' : World} {b : Nat} {st : Wd} {blk : List UInt8} {n : Int} (h : HsAt W b st blk n) (hg : Gr W W') : HsAt W' b st blk n := (hg.block (lt_of_heap h)).trans h
theorem ByAt.grownV {w w' : World} {g o b : Nat} {l : List UInt8} (h : ByAt w g o l) (hg : w.grownBy w' (some b)) (hb : g ≠ b) : ByAt w' g o l :=
  ⟨Nat.lt_of_lt_of_le h.1 hg.size, fun j x hj => (World.cell?_of_block (hg.block g h.1 (fun e => hb (by simpa using e)))).trans (h.2 j x hj)⟩
theorem ByAt.dropV {w : World} {g o : Nat} {l : List UInt8} (h : ByAt w g o l) (n : Nat) : ByAt w g (o + n) (l.drop n) :=
  ⟨h.1, fun j x hj => by rw [List.getElem?_drop] at hj; rw [Nat.add_assoc]; exact h.2 _ _ hj⟩
theorem ByAt.takeV {w : World} {g o : Nat} {l : List UInt8} (h : ByAt w g o l) (n : Nat) : ByAt w g o (l.take n) :=
  ⟨h.1, fun j x hj => h.2 _ _ (by
    rw [List.getElem?_take] at hj
    split at hj
    · exact hj
    · cases hj)⟩
theorem grown_atsV {w : World} {b : Nat} : ∀ (l : List Value) (k : Nat) (w1 : World), w.grownBy w1 (some b) → w.grownBy (w1.setCells b k l) (some b)
  | [], _, _, h => h
  | v :: l, k, w1, h => by
    show w.grownBy ((w1.setCell ⟨b, k, none⟩ v).setCells b (k + 1) l) (some b)
    exact grown_atsV l (k + 1) _ (grown_trans h (grown_set _ _ _ _))
theorem Kt.grown {w w' : World} {b : Nat} (h : Kt w) (hg : w.grownBy w' (some b)) (hb : 3 ≠ b) : Kt w' := fun i hi => grown_cell hg (h i hi) (by simpa using Ne.symm hb)
/-- Bytes that a slice holds, none of them in block b. -/
def BytN (W : World) (v : Value) (l : List UInt8) (b : Nat) : Prop := ∃ a c, v = .slice a l.length c ∧ l.length ≤ c ∧ (l = [] ∨ ∃ g o, a = some ⟨g, o, none⟩ ∧ ByAt W g o l ∧ g ≠ b)
theorem BytN.grown {W W' : World} {v : Value} {l : List UInt8} {b : Nat} (h : BytN W v l b) (hg : W.grownBy W' (some b)) : BytN W' v l b := by
  obtain ⟨a, c, h1, h2, h3⟩ := h
  refine ⟨a, c, h1, h2, ?_⟩
  rcases h3 with h3 | ⟨g, o, h4, h5, h6⟩
  · exact .inl h3
  · exact .inr ⟨g, o, h4, h5.grownV hg h6, h6⟩
end Go.Proofs.YteknmbijodbfoaaGreatDoor

namespace Go.Proofs.YteknmbijodbfoaaGreatDoor
open Go.RowKit

theorem take_more (l : List UInt8) (k q : Nat) : l.take k ++ (l.drop k).take q = l.take (k + q) := by
  rw [List.take_add]
theorem byt_end {w : World} {b k q m c d : Nat} {a : Option Addr} {l : List UInt8} (hm : l.length - k = m) (hc : m ≤ c) (hq : q ≤ m) (hcq : c = q) : BytN w (.slice a (m - q) d) (l.drop (k + q)) b := by
  have e : (l.drop (k + q)).length = m - q := by rw [List.length_drop]; omega
  refine ⟨_, _, by rw [e], by rw [e]; omega, .inl (List.length_eq_zero_iff.1 (by rw [e]; omega))⟩
theorem byt_rest {w : World} {g o b c m k q : Nat} {l : List UInt8} (hby : ByAt w g o (l.drop k)) (hgb : g ≠ b) (hm : l.length - k = m) (hc : m ≤ c) (hq : q ≤ m) : BytN w (.slice (some ⟨g, o + q, none⟩) (m - q) (c - q)) (l.drop (k + q)) b := by
  have e : (l.drop (k + q)).length = m - q := by rw [List.length_drop]; omega
  refine ⟨_, _, by rw [e], by rw [e]; omega, .inr ⟨_, _, rfl, ?_, hgb⟩⟩
  rw [← List.drop_drop]; exact hby.dropV q
set_option maxRecDepth 100000 in
set_option maxHeartbeats 2000000 in
theorem writeC (b : Nat) (l0 l : List UInt8) (v : Value) (st0 : Wd) (blk0 : List UInt8) (w : World) (hK : Kt w) (hne : 3 ≠ b) (hsmall : l0.length + l.length ≤ 1000000) (hB : HsAt w b st0 blk0 l0.length) (hlen : blk0.length = 64) (hS : l0 ≠ [] → HSt l0 st0 blk0) (hv : BytN w v l b) :
    Calls Tryz.prog 41 #[.pointer (some ⟨b, 0, none⟩), v] w fun e w' => e = .returned (.int .i64 0) ∧ (∃ st blk, HsAt w' b st blk ((l0.length + l.length : Nat) : Int) ∧ HSt (l0 ++ l) st blk) ∧ w.grownBy w' (some b) := by
  have HV := Lib.hid hv
  obtain ⟨a0, c0, rfl, hc0, -⟩ := hv
  have hf := hB.facts hlen
  have C0 := hf.c
  have Z0 := hf.z
  by_cases h0 : l0 = []
  · subst h0
    have hS0 := Lib.hid (hst_nil blk0 hlen)
    have HB0 : Hid (HsAt w b st0 blk0 0) := hB
    have C1 : w.cell? ⟨b, 72, none⟩ = some (.int .i64 0) := C0
    have HIL : (wdC ini).length = 8 := rfl
    have HIO := wd_one ini
    have HKW := Lib.hid hK
    clear hf hB hS C0 hK
    go_enter Tryz.func41, Tryz.ntmps41
    go_wp2_with (go_at_call 64; refine (initialC w).mono ?_; rintro e w1 ⟨rfl, hg1⟩; have HB1 := Lib.hid (HB0.out.gr hg1); have F0 := (HB1.out.facts hlen).h0; have F1 := (HB1.out.facts hlen).f0; have HG1 : Hid (w.grownBy w1 (some b)) := grown_gr hg1; have HV1 := Lib.hid (HV.out.grown HG1.out); clear hg1)
    have HB := Lib.hid (HB1.out.setSt ini)
    have HS := hS0
    have HG := Lib.hid (grown_atsV (wdC ini) 0 w1 HG1.out)
    have HV2 := Lib.hid (HV1.out.grown (grown_atsV (wdC ini) 0 w1 (grown_refl w1 (some b))))
    have HIN : Hid (l.length = l.length) := rfl
    clear HV HV1 HG1 HB1 F0 F1 HB0 hS0 HIL HIO C1
    generalize w1.setCells b 0 (wdC ini) = W1 at *
    have HV := HV2
    clear HV2
    obtain ⟨st1, hst⟩ : ∃ st, ini = st := ⟨_, rfl⟩
    rw [hst] at HB HS
    have HB : Hid (HsAt W1 b st1 blk0 (([] : List UInt8).length : Int)) := HB.out
    generalize hl0 : ([] : List UInt8) = l0 at *
    have HL0 : Hid (l0 = []) := hl0.symm
    clear hl0 hst
    go_loopw [1, 5, 17, 18, 19, 20, 21, 22, 23, 24, 25, 26, 27, 28, 29, 30, 31, 32, 33, 34, 35, 36, 37, 38, 39, 40, 41, 42, 43, 44, 45, 46, 47, 48, 49, 50, 51, 52, 53, 54, 55, 56, 57, 58, 59, 60] (fun s _ _ _ _ _ _ _ _ _ _ _ _ _ _ _ _ _ _ _ _ _ _ _ _ _ _ _ _ _ _ _ _ _ _ _ _ _ _ _ _ _ _ _ _ _ wr => ∃ k : Nat, k ≤ l.length ∧ Hid (BytN wr s (l.drop k) b) ∧ Hid (∃ st blk, HSt (l0 ++ l.take k) st blk ∧ HsAt wr b st blk ((l0.length + k : Nat) : Int)) ∧ Hid (w.grownBy wr (some b))) (fun s _ _ _ _ _ _ _ _ _ _ _ _ _ _ _ _ _ _ _ _ _ _ _ _ _ _ _ _ _ _ _ _ _ _ _ _ _ _ _ _ _ _ _ _ _ _ => lenV s)
    case atStart => exact ⟨0, Nat.zero_le _, HV.out, ⟨st1, blk0, by rw [List.take_zero, List.append_nil]; exact HS.out, HB.out⟩, HG.out⟩
    case round =>
      obtain ⟨k, hk, hV, hS, hG⟩ := hrel
      obtain ⟨a, c, rfl, hc, hav⟩ := hV.out
      obtain ⟨st, blk, hs, hb⟩ := hS.out
      rw [List.length_drop] at hc ⊢
      obtain ⟨m, hm⟩ : ∃ m, l.length - k = m := ⟨_, rfl⟩
      rw [hm] at hc ⊢
      obtain ⟨M, hM⟩ : ∃ M, l0.length + k = M := ⟨_, rfl⟩
      rw [hM] at hb
      by_cases hm0 : m = 0
      · subst hm0
        have HE : Hid (l.take k = l) := by show _ = _; exact List.take_of_length_le (by omega)
        have HM : Hid (M = l0.length + l.length) := by show _ = _; omega
        have HR : Hid (∃ st blk, HsAt wr b st blk ((l0.length + l.length : Nat) : Int) ∧ HSt (l0 ++ l) st blk) := ⟨st, blk, by rw [← HM.out]; exact hb, by rw [HE.out] at hs; exact hs⟩
        clear hs hb hc hav hm hM hS HM HE
        go_wp2_with fail
        go_ret
        exact ⟨rfl, (by obtain ⟨x, y, h1, h2⟩ := HR.out; rw [HL0.out] at h1 h2; exact ⟨x, y, by simpa using h1, by simpa using h2⟩), hG.out⟩
      · have hm1 : (0 : Int) < (m : Int) := by omega
        have hne0 : l.drop k ≠ [] := fun e => by have := congrArg List.length e; rw [List.length_drop] at this; simp at this; omega
        rcases hav with he | ⟨g, o, rfl, hby, hgb⟩
        · exact absurd he hne0
        have hl64 : blk.length = 64 := hs.1
        have hf := hb.facts hl64
        have HSL : Hid ((l0 ++ l.take k).length = M) := by show _ = _; rw [List.length_append, List.length_take]; omega
        obtain ⟨r, hr⟩ : ∃ r, M % 64 = r := ⟨_, rfl⟩
        have hr64 : r < 64 := by omega
        have t1 : (M : Int).tmod 64 = (r : Int) := by rw [← hr]; rfl
        have t2 : (M : Int) % 64 = (r : Int) := by omega
        have wr1 : IntKind.i64.wrap (r : Int) = (r : Int) := wrapN r (by omega)
        have r0 : (0 : Int) ≤ (r : Int) := by omega
        have r1 : (r : Int) ≤ 64 := by omega
        have C0 := hf.c
        have Z0 := hf.z
        have HS1 := Lib.hid hs
        have HB1 := Lib.hid hb
        have HBY := Lib.hid hby
        have HGB := Lib.hid hgb
        have HRM := Lib.hid hr
        have HKM := Lib.hid hm
        have HMM := Lib.hid hM
        clear hf hs hb hby hgb hne0 hr hS hV hm hM
        go_wp2_with fail
        generalize wr = w1 at *
        refine wp_region_tail 10 (fun u => ∃ q : LD, u = lw w1 q) (by kernel_rfl) (by kernel_rfl) (cl_drew w1) ?_
        simp only [List.take_succ_cons, List.take_zero, List.drop_succ_cons, List.drop_zero]
        repeat (go_big_quiet_step (fail))
        refine wpQuiet_nil ?_
        rintro _ ⟨qq, rfl⟩
        have g1 := (lay_lw w1 qq).1
        have HB2 := Lib.hid (HB1.out.gr g1)
        have HBY2 := Lib.hid (HBY.out.gr g1)
        have HG2 := Lib.hid (grown_trans hG.out (grown_gr g1))
        clear g1 HB1 HBY hG C0 Z0
        generalize lw w1 qq = w2 at *
        obtain ⟨q, hq⟩ : ∃ q, Nat.min m (64 - r) = q := ⟨_, rfl⟩
        have hq1 : q ≤ m := hq ▸ Nat.min_le_left _ _
        have hq2 : q ≤ 64 - r := hq ▸ Nat.min_le_right _ _
        have hq3 : 0 < q := by rw [← hq]; exact Nat.lt_min.2 ⟨by omega, by omega⟩
        obtain ⟨cc, hcc⟩ : ∃ cc, (l.drop k).take q = cc := ⟨_, rfl⟩
        have hcl : cc.length = q := by have := HKM.out; rw [← hcc, List.length_take, List.length_drop]; omega
        have hr73 : 8 + r + cc.length ≤ (hsC st blk (M : Int)).length := by rw [hs_len _ _ _ hl64]; omega
        refine wpList_copy_u8 w2 rfl _ _ rfl b (8 + r) (64 - r) (64 - r) g o m c rfl rfl cc (by rw [hcl, hq]) (by rw [← hcc]; exact HBY2.out.takeV q) (hasRow_block HB2.out _ _ hr73) (freeRow_block HB2.out _ _) ?_
        have HB3 := Lib.hid (HB2.out.setB hl64 r cc (by omega))
        have HG3 := Lib.hid (grown_atsV (uL cc) (8 + r) w2 HG2.out)
        have HBY3 := Lib.hid (HBY2.out.grownV (grown_atsV (uL cc) (8 + r) w2 (grown_refl w2 (some b))) HGB.out)
        clear HB2 HG2 HBY2 hr73
        generalize w2.setCells b (8 + r) (uL cc) = w3 at *
        have HPL : Hid ((putW blk r cc).length = 64) := putW_len _ _ _ hl64 (by omega)
        have hf := HB3.out.facts HPL.out
        have C3 := hf.c
        have F3 := hf.f
        have Z3 := hf.z
        obtain ⟨M2, hM2⟩ : ∃ M2, M + q = M2 := ⟨_, rfl⟩
        have HM2 : Hid (M2 ≤ 1000000) := by show _ ≤ _; have := HMM.out; have := HKM.out; omega
        have HHM := Lib.hid hM2
        have HHQ := Lib.hid hcl
        have e9 : IntKind.i64.wrap ((M : Int) + (q : Int)) = (M2 : Int) := by rw [IntKind.wrap_i64]; have := HM2.out; omega
        have q0 : (0 : Int) ≤ (q : Int) := by omega
        have q1 : (q : Int) ≤ (m : Int) := by omega
        have q2 : (m : Int) ≤ (c : Int) := by omega
        have HB4 := Lib.hid (HB3.out.setN HPL.out (M2 : Int))
        have HG4 := Lib.hid (grown_trans HG3.out (grown_set w3 b 72 (.int .i64 (M2 : Int))))
        have HBY4 := Lib.hid (HBY3.out.grownV (grown_set w3 b 72 (.int .i64 (M2 : Int))) HGB.out)
        have HTK : Hid (l0 ++ l.take k ++ cc = l0 ++ l.take (k + q)) := by show _ = _; rw [List.append_assoc, ← hcc, take_more]
        rw [hcl]
        clear hf hM2 hcl HB3 HG3 HBY3 hcc hq
        by_cases hcq : c = q
        all_goals
          by_cases hz : r + q = 64
          · have t3 : (M2 : Int).tmod 64 = 0 := by have h1 := HRM.out; have h2 := HHM.out; have : M2 % 64 = 0 := by omega
                                                   rw [show (M2 : Int).tmod 64 = ((M2 % 64 : Nat) : Int) from rfl, this]; rfl
            have t4 : (M2 : Int) % 64 = 0 := by have h1 := HRM.out; have h2 := HHM.out; omega
            have HS5 : Hid (HSt (l0 ++ l.take (k + q)) (proc (word4 (putW blk r cc)) st) (putW blk r cc)) := by
              show HSt _ _ _
              have h := hst_full HS1.out cc (by rw [HSL.out, HRM.out, HHQ.out]; exact hz)
              rw [HSL.out, HRM.out, HTK.out] at h
              exact h
            clear HS1 HTK hz
            generalize putW blk r cc = bk at *
            go_wp2_with fail
            generalize w3.setCell _ _ = w4 at *
            have hf := HB4.out.facts HPL.out
            obtain ⟨s1, s2, s3, s4, s5, s6, s7, s8⟩ := hf
            have hwl := wdC_length st
            have hbl : (uL bk).length = 64 := by rw [uL_len]; exact HPL.out
            have HWP := Lib.hid (ldW_all bk)
            have HK4 := Lib.hid (HKW.out.grown HG4.out hne)
            have HLD : Hid (∀ p : GD, Calls Tryz.prog 66 #[.agg (uL bk).toArray] (gw w4 p) fun e w'' => e = .returned (.agg (vW (ldW bk 64)).toArray) ∧ ∃ q : GD, w'' = gw w4 q) := fun p => gr_call (loadC bk HPL.out _)
            have HPC : Hid (∀ p : GD, Calls Tryz.prog 65 #[.agg (wdC st).toArray, .agg (vW (ldW bk 64)).toArray] (gw w4 p) fun e w'' => e = .returned (.agg (wdC (proc (word4 bk) st)).toArray) ∧ ∃ q : GD, w'' = gw w4 q) := fun p => gr_call (processC st (ldW bk 64) (word4 bk) HWP.out _ (HK4.out.gr (gr_gw w4 p)))
            refine wp_region_tail 11 (fun u => ∃ q : GD, u = gw w4 q) (by kernel_rfl) (by kernel_rfl) (cg_drew w4) ?_
            simp only [List.take_succ_cons, List.take_zero, List.drop_succ_cons, List.drop_zero]
            repeat (go_big_quiet_step (first | (go_at_call 66; with_reducible exact HLD.out _) | (go_at_call 65; with_reducible exact HPC.out _)))
            refine wpQuiet_nil ?_
            rintro _ ⟨qq, rfl⟩
            have g4 := gr_gw w4 qq
            have HB7 := Lib.hid (HB4.out.gr g4)
            have HG7 := Lib.hid (grown_trans HG4.out (grown_gr g4))
            have HBY7 := Lib.hid (HBY4.out.gr g4)
            clear g4 s1 s2 s3 s4 s5 s6 s7 s8 HB4 HG4 HBY4 HLD HPC HK4
            generalize gw w4 qq = w7 at *
            have f0 := (HB7.out.facts HPL.out).h0
            have f1 := (HB7.out.facts HPL.out).f0
            have f2 := (HB7.out.facts HPL.out).z
            have hwo := wd_one (proc (word4 bk) st)
            have hw8 := wdC_length (proc (word4 bk) st)
            have HB8 := Lib.hid (HB7.out.setSt (proc (word4 bk) st))
            have HG8 := Lib.hid (grown_atsV (wdC (proc (word4 bk) st)) 0 w7 HG7.out)
            have HBY8 := Lib.hid (HBY7.out.grownV (grown_atsV (wdC (proc (word4 bk) st)) 0 w7 (grown_refl w7 (some b))) HGB.out)
            go_wp2_with fail
            go_roundw
            case rel => exact ⟨k + q, by have := HKM.out; omega, by first | exact byt_end HKM.out hc hq1 hcq | exact byt_rest HBY8.out HGB.out HKM.out hc hq1, ⟨_, _, HS5.out, by show HsAt _ _ _ _ ((l0.length + (k + q) : Nat) : Int); rw [← Nat.add_assoc, HMM.out, HHM.out]; exact HB8.out⟩, HG8.out⟩
            case measure => simp [lenV]; omega
          · obtain ⟨r2, hr2⟩ : ∃ r2, M2 % 64 = r2 := ⟨_, rfl⟩
            have hr20 : r2 ≠ 0 := by have h1 := HRM.out; have h2 := HHM.out; omega
            have t3 : (M2 : Int).tmod 64 = (r2 : Int) := by rw [← hr2]; rfl
            have t4 : (M2 : Int) % 64 = (r2 : Int) := by omega
            have t5 : ((r2 : Int) == 0) = false := beq_eq_false_iff_ne.2 (by omega)
            have HS5 : Hid (HSt (l0 ++ l.take (k + q)) st (putW blk r cc)) := by
              show HSt _ _ _
              have h := hst_part HS1.out cc (by rw [HSL.out, HRM.out, HHQ.out]; omega)
              rw [HSL.out, HRM.out, HTK.out] at h
              exact h
            clear HS1 HTK hz hr2 hr20
            generalize putW blk r cc = bk at *
            go_wp2_with fail
            go_roundw
            case rel => exact ⟨k + q, by have := HKM.out; omega, by first | exact byt_end HKM.out hc hq1 hcq | exact byt_rest HBY4.out HGB.out HKM.out hc hq1, ⟨_, _, HS5.out, by show HsAt _ _ _ _ ((l0.length + (k + q) : Nat) : Int); rw [← Nat.add_assoc, HMM.out, HHM.out]; exact HB4.out⟩, HG4.out⟩
            case measure => simp [lenV]; omega
  · have h1 : ((l0.length : Int) == 0) = false := beq_eq_false_iff_ne.2 (by have := List.length_pos_iff.2 h0; omega)
    have HS := Lib.hid (hS h0)
    have HB := Lib.hid hB
    have HG := Lib.hid (grown_refl w (some b))
    have HKW := Lib.hid hK
    clear hf hB hS h0 hK
    go_enter Tryz.func41, Tryz.ntmps41
    go_wp2_with fail
    clear h1
    go_loopw [1, 5, 17, 18, 19, 20, 21, 22, 23, 24, 25, 26, 27, 28, 29, 30, 31, 32, 33, 34, 35, 36, 37, 38, 39, 40, 41, 42, 43, 44, 45, 46, 47, 48, 49, 50, 51, 52, 53, 54, 55, 56, 57, 58, 59, 60] (fun s _ _ _ _ _ _ _ _ _ _ _ _ _ _ _ _ _ _ _ _ _ _ _ _ _ _ _ _ _ _ _ _ _ _ _ _ _ _ _ _ _ _ _ _ _ wr => ∃ k : Nat, k ≤ l.length ∧ Hid (BytN wr s (l.drop k) b) ∧ Hid (∃ st blk, HSt (l0 ++ l.take k) st blk ∧ HsAt wr b st blk ((l0.length + k : Nat) : Int)) ∧ Hid (w.grownBy wr (some b))) (fun s _ _ _ _ _ _ _ _ _ _ _ _ _ _ _ _ _ _ _ _ _ _ _ _ _ _ _ _ _ _ _ _ _ _ _ _ _ _ _ _ _ _ _ _ _ _ => lenV s)
    case atStart => exact ⟨0, Nat.zero_le _, HV.out, ⟨st0, blk0, by rw [List.take_zero, List.append_nil]; exact HS.out, HB.out⟩, HG.out⟩
    case round =>
      obtain ⟨k, hk, hV, hS, hG⟩ := hrel
      obtain ⟨a, c, rfl, hc, hav⟩ := hV.out
      obtain ⟨st, blk, hs, hb⟩ := hS.out
      rw [List.length_drop] at hc ⊢
      obtain ⟨m, hm⟩ : ∃ m, l.length - k = m := ⟨_, rfl⟩
      rw [hm] at hc ⊢
      obtain ⟨M, hM⟩ : ∃ M, l0.length + k = M := ⟨_, rfl⟩
      rw [hM] at hb
      by_cases hm0 : m = 0
      · subst hm0
        have HE : Hid (l.take k = l) := by show _ = _; exact List.take_of_length_le (by omega)
        have HM : Hid (M = l0.length + l.length) := by show _ = _; omega
        have HR : Hid (∃ st blk, HsAt wr b st blk ((l0.length + l.length : Nat) : Int) ∧ HSt (l0 ++ l) st blk) := ⟨st, blk, by rw [← HM.out]; exact hb, by rw [HE.out] at hs; exact hs⟩
        clear hs hb hc hav hm hM hS HM HE
        go_wp2_with fail
        go_ret
        exact ⟨rfl, HR.out, hG.out⟩
      · have hm1 : (0 : Int) < (m : Int) := by omega
        have hne0 : l.drop k ≠ [] := fun e => by have := congrArg List.length e; rw [List.length_drop] at this; simp at this; omega
        rcases hav with he | ⟨g, o, rfl, hby, hgb⟩
        · exact absurd he hne0
        have hl64 : blk.length = 64 := hs.1
        have hf := hb.facts hl64
        have HSL : Hid ((l0 ++ l.take k).length = M) := by show _ = _; rw [List.length_append, List.length_take]; omega
        obtain ⟨r, hr⟩ : ∃ r, M % 64 = r := ⟨_, rfl⟩
        have hr64 : r < 64 := by omega
        have t1 : (M : Int).tmod 64 = (r : Int) := by rw [← hr]; rfl
        have t2 : (M : Int) % 64 = (r : Int) := by omega
        have wr1 : IntKind.i64.wrap (r : Int) = (r : Int) := wrapN r (by omega)
        have r0 : (0 : Int) ≤ (r : Int) := by omega
        have r1 : (r : Int) ≤ 64 := by omega
        have C0 := hf.c
        have Z0 := hf.z
        have HS1 := Lib.hid hs
        have HB1 := Lib.hid hb
        have HBY := Lib.hid hby
        have HGB := Lib.hid hgb
        have HRM := Lib.hid hr
        have HKM := Lib.hid hm
        have HMM := Lib.hid hM
        clear hf hs hb hby hgb hne0 hr hS hV hm hM
        go_wp2_with fail
        generalize wr = w1 at *
        refine wp_region_tail 10 (fun u => ∃ q : LD, u = lw w1 q) (by kernel_rfl) (by kernel_rfl) (cl_drew w1) ?_
        simp only [List.take_succ_cons, List.take_zero, List.drop_succ_cons, List.drop_zero]
        repeat (go_big_quiet_step (fail))
        refine wpQuiet_nil ?_
        rintro _ ⟨qq, rfl⟩
        have g1 := (lay_lw w1 qq).1
        have HB2 := Lib.hid (HB1.out.gr g1)
        have HBY2 := Lib.hid (HBY.out.gr g1)
        have HG2 := Lib.hid (grown_trans hG.out (grown_gr g1))
        clear g1 HB1 HBY hG C0 Z0
        generalize lw w1 qq = w2 at *
        obtain ⟨q, hq⟩ : ∃ q, Nat.min m (64 - r) = q := ⟨_, rfl⟩
        have hq1 : q ≤ m := hq ▸ Nat.min_le_left _ _
        have hq2 : q ≤ 64 - r := hq ▸ Nat.min_le_right _ _
        have hq3 : 0 < q := by rw [← hq]; exact Nat.lt_min.2 ⟨by omega, by omega⟩
        obtain ⟨cc, hcc⟩ : ∃ cc, (l.drop k).take q = cc := ⟨_, rfl⟩
        have hcl : cc.length = q := by have := HKM.out; rw [← hcc, List.length_take, List.length_drop]; omega
        have hr73 : 8 + r + cc.length ≤ (hsC st blk (M : Int)).length := by rw [hs_len _ _ _ hl64]; omega
        refine wpList_copy_u8 w2 rfl _ _ rfl b (8 + r) (64 - r) (64 - r) g o m c rfl rfl cc (by rw [hcl, hq]) (by rw [← hcc]; exact HBY2.out.takeV q) (hasRow_block HB2.out _ _ hr73) (freeRow_block HB2.out _ _) ?_
        have HB3 := Lib.hid (HB2.out.setB hl64 r cc (by omega))
        have HG3 := Lib.hid (grown_atsV (uL cc) (8 + r) w2 HG2.out)
        have HBY3 := Lib.hid (HBY2.out.grownV (grown_atsV (uL cc) (8 + r) w2 (grown_refl w2 (some b))) HGB.out)
        clear HB2 HG2 HBY2 hr73
        generalize w2.setCells b (8 + r) (uL cc) = w3 at *
        have HPL : Hid ((putW blk r cc).length = 64) := putW_len _ _ _ hl64 (by omega)
        have hf := HB3.out.facts HPL.out
        have C3 := hf.c
        have F3 := hf.f
        have Z3 := hf.z
        obtain ⟨M2, hM2⟩ : ∃ M2, M + q = M2 := ⟨_, rfl⟩
        have HM2 : Hid (M2 ≤ 1000000) := by show _ ≤ _; have := HMM.out; have := HKM.out; omega
        have HHM := Lib.hid hM2
        have HHQ := Lib.hid hcl
        have e9 : IntKind.i64.wrap ((M : Int) + (q : Int)) = (M2 : Int) := by rw [IntKind.wrap_i64]; have := HM2.out; omega
        have q0 : (0 : Int) ≤ (q : Int) := by omega
        have q1 : (q : Int) ≤ (m : Int) := by omega
        have q2 : (m : Int) ≤ (c : Int) := by omega
        have HB4 := Lib.hid (HB3.out.setN HPL.out (M2 : Int))
        have HG4 := Lib.hid (grown_trans HG3.out (grown_set w3 b 72 (.int .i64 (M2 : Int))))
        have HBY4 := Lib.hid (HBY3.out.grownV (grown_set w3 b 72 (.int .i64 (M2 : Int))) HGB.out)
        have HTK : Hid (l0 ++ l.take k ++ cc = l0 ++ l.take (k + q)) := by show _ = _; rw [List.append_assoc, ← hcc, take_more]
        rw [hcl]
        clear hf hM2 hcl HB3 HG3 HBY3 hcc hq
        by_cases hcq : c = q
        all_goals
          by_cases hz : r + q = 64
          · have t3 : (M2 : Int).tmod 64 = 0 := by have h1 := HRM.out; have h2 := HHM.out; have : M2 % 64 = 0 := by omega
                                                   rw [show (M2 : Int).tmod 64 = ((M2 % 64 : Nat) : Int) from rfl, this]; rfl
            have t4 : (M2 : Int) % 64 = 0 := by have h1 := HRM.out; have h2 := HHM.out; omega
            have HS5 : Hid (HSt (l0 ++ l.take (k + q)) (proc (word4 (putW blk r cc)) st) (putW blk r cc)) := by
              show HSt _ _ _
              have h := hst_full HS1.out cc (by rw [HSL.out, HRM.out, HHQ.out]; exact hz)
              rw [HSL.out, HRM.out, HTK.out] at h
              exact h
            clear HS1 HTK hz
            generalize putW blk r cc = bk at *
            go_wp2_with fail
            generalize w3.setCell _ _ = w4 at *
            have hf := HB4.out.facts HPL.out
            obtain ⟨s1, s2, s3, s4, s5, s6, s7, s8⟩ := hf
            have hwl := wdC_length st
            have hbl : (uL bk).length = 64 := by rw [uL_len]; exact HPL.out
            have HWP := Lib.hid (ldW_all bk)
            have HK4 := Lib.hid (HKW.out.grown HG4.out hne)
            have HLD : Hid (∀ p : GD, Calls Tryz.prog 66 #[.agg (uL bk).toArray] (gw w4 p) fun e w'' => e = .returned (.agg (vW (ldW bk 64)).toArray) ∧ ∃ q : GD, w'' = gw w4 q) := fun p => gr_call (loadC bk HPL.out _)
            have HPC : Hid (∀ p : GD, Calls Tryz.prog 65 #[.agg (wdC st).toArray, .agg (vW (ldW bk 64)).toArray] (gw w4 p) fun e w'' => e = .returned (.agg (wdC (proc (word4 bk) st)).toArray) ∧ ∃ q : GD, w'' = gw w4 q) := fun p => gr_call (processC st (ldW bk 64) (word4 bk) HWP.out _ (HK4.out.gr (gr_gw w4 p)))
            refine wp_region_tail 11 (fun u => ∃ q : GD, u = gw w4 q) (by kernel_rfl) (by kernel_rfl) (cg_drew w4) ?_
            simp only [List.take_succ_cons, List.take_zero, List.drop_succ_cons, List.drop_zero]
            repeat (go_big_quiet_step (first | (go_at_call 66; with_reducible exact HLD.out _) | (go_at_call 65; with_reducible exact HPC.out _)))
            refine wpQuiet_nil ?_
            rintro _ ⟨qq, rfl⟩
            have g4 := gr_gw w4 qq
            have HB7 := Lib.hid (HB4.out.gr g4)
            have HG7 := Lib.hid (grown_trans HG4.out (grown_gr g4))
            have HBY7 := Lib.hid (HBY4.out.gr g4)
            clear g4 s1 s2 s3 s4 s5 s6 s7 s8 HB4 HG4 HBY4 HLD HPC HK4
            generalize gw w4 qq = w7 at *
            have f0 := (HB7.out.facts HPL.out).h0
            have f1 := (HB7.out.facts HPL.out).f0
            have f2 := (HB7.out.facts HPL.out).z
            have hwo := wd_one (proc (word4 bk) st)
            have hw8 := wdC_length (proc (word4 bk) st)
            have HB8 := Lib.hid (HB7.out.setSt (proc (word4 bk) st))
            have HG8 := Lib.hid (grown_atsV (wdC (proc (word4 bk) st)) 0 w7 HG7.out)
            have HBY8 := Lib.hid (HBY7.out.grownV (grown_atsV (wdC (proc (word4 bk) st)) 0 w7 (grown_refl w7 (some b))) HGB.out)
            go_wp2_with fail
            go_roundw
            case rel => exact ⟨k + q, by have := HKM.out; omega, by first | exact byt_end HKM.out hc hq1 hcq | exact byt_rest HBY8.out HGB.out HKM.out hc hq1, ⟨_, _, HS5.out, by show HsAt _ _ _ _ ((l0.length + (k + q) : Nat) : Int); rw [← Nat.add_assoc, HMM.out, HHM.out]; exact HB8.out⟩, HG8.out⟩
            case measure => simp [lenV]; omega
          · obtain ⟨r2, hr2⟩ : ∃ r2, M2 % 64 = r2 := ⟨_, rfl⟩
            have hr20 : r2 ≠ 0 := by have h1 := HRM.out; have h2 := HHM.out; omega
            have t3 : (M2 : Int).tmod 64 = (r2 : Int) := by rw [← hr2]; rfl
            have t4 : (M2 : Int) % 64 = (r2 : Int) := by omega
            have t5 : ((r2 : Int) == 0) = false := beq_eq_false_iff_ne.2 (by omega)
            have HS5 : Hid (HSt (l0 ++ l.take (k + q)) st (putW blk r cc)) := by
              show HSt _ _ _
              have h := hst_part HS1.out cc (by rw [HSL.out, HRM.out, HHQ.out]; omega)
              rw [HSL.out, HRM.out, HTK.out] at h
              exact h
            clear HS1 HTK hz hr2 hr20
            generalize putW blk r cc = bk at *
            go_wp2_with fail
            go_roundw
            case rel => exact ⟨k + q, by have := HKM.out; omega, by first | exact byt_end HKM.out hc hq1 hcq | exact byt_rest HBY4.out HGB.out HKM.out hc hq1, ⟨_, _, HS5.out, by show HsAt _ _ _ _ ((l0.length + (k + q) : Nat) : Int); rw [← Nat.add_assoc, HMM.out, HHM.out]; exact HB4.out⟩, HG4.out⟩
            case measure => simp [lenV]; omega
end Go.Proofs.YteknmbijodbfoaaGreatDoor

namespace Go.Proofs.YteknmbijodbfoaaGreatDoor
open Go.RowKit

theorem OwnU.bytN {w : World} {base : Nat} {v : Value} {l : List UInt8} (h : OwnU w base v l) {b : Nat} (hb : v.ownBlock ≠ some b) : BytN w v l b := by
  by_cases hl : l = []
  · subst hl
    obtain ⟨_, h2⟩ := h
    rcases h2 with ⟨rfl, h0⟩ | ⟨g, cap, cur, rfl, _⟩
    · exact ⟨none, 0, rfl, Nat.le_refl _, .inl rfl⟩
    · exact ⟨_, cap, rfl, Nat.zero_le _, .inl rfl⟩
  · obtain ⟨g, c, rfl, h1, h2, _, h4⟩ := h.cells hl
    exact ⟨_, c, rfl, h1, .inr ⟨g, 0, rfl, ⟨h2, fun j x hj => h4 j x hj⟩, fun e => hb (by rw [← e]; rfl)⟩⟩
theorem byte_shr (n k : Nat) : IntKind.u8.wrap ((n : Int) / 2 ^ k) = ((UInt8.ofNat (n / 2 ^ k)).toNat : Int) := by
  have e : (n : Int) / 2 ^ k = ((n / 2 ^ k : Nat) : Int) := by simp
  rw [e, IntKind.wrap_u8, UInt8.toNat_ofNat']; omega
theorem byte_of (n : Nat) : IntKind.u8.wrap (n : Int) = ((UInt8.ofNat n).toNat : Int) := by
  rw [IntKind.wrap_u8, UInt8.toNat_ofNat']; omega
theorem wrapU (j : Nat) (h : j < 4294967296) : IntKind.u64.wrap (j : Int) = (j : Int) := by rw [IntKind.wrap_u64]; omega
theorem hs_one (st : Wd) (blk : List UInt8) (n : Int) : oneB (hsC st blk n) = true := by
  unfold hsC; simp only [oneB_append, wd_one, uL_one, Bool.true_and]; rfl
set_option maxRecDepth 100000 in
set_option maxHeartbeats 2000000 in
theorem hsumC (b : Nat) (l : List UInt8) (st : Wd) (blk : List UInt8) (w : World) (hK : Kt w) (hsmall : l.length ≤ 900000) (hB : HsAt w b st blk l.length) (hlen : blk.length = 64) (hS : l ≠ [] → HSt l st blk) :
    Calls Tryz.prog 42 #[.pointer (some ⟨b, 0, none⟩)] w fun e w' => e = .returned (.agg (uL (shaL l)).toArray) ∧ Gr w w' := by
  obtain ⟨n, hn⟩ : ∃ n, w.heap.size = n := ⟨_, rfl⟩
  obtain ⟨N, hN⟩ : ∃ N, l.length = N := ⟨_, rfl⟩
  rw [hN] at hB hsmall
  have HB0 := Lib.hid hB
  have HNl := Lib.hid hN
  have HN := Lib.hid hn
  have hbn : b < n := hn ▸ lt_of_heap hB
  have HZ : Hid (((w.alloc (.cells (uL zL32).toArray 83)).alloc (.cells #[.int .u8 128] 5)).heap[n]? = some (.cells (uL zL32).toArray 83 (0, 0))) := (((Gr.refl _).alloc _).block (by first | omega | (simp; omega))).trans (heap_new _ _ _ (by first | omega | (simp; omega)))
  have HO : Hid (OwnU ((w.alloc (.cells (uL zL32).toArray 83)).alloc (.cells #[.int .u8 128] 5)) (n + 1) (.slice (some ⟨n + 1, 0, none⟩) 1 1) (padP 0)) := OwnU.made (l := [128]) (heap_new _ _ _ (by first | omega | (simp; omega))) (Nat.le_refl _) (by simp)
  have HW0 : Hid (n + 2 ≤ ((w.alloc (.cells (uL zL32).toArray 83)).alloc (.cells #[.int .u8 128] 5)).heap.size) := by show _ ≤ _; simp; omega
  have HG : Hid (Gr w ((w.alloc (.cells (uL zL32).toArray 83)).alloc (.cells #[.int .u8 128] 5))) := ((Gr.refl w).alloc _).alloc _
  clear hB hN
  go_enter Tryz.func42, Tryz.ntmps42
  go_wp2_with fail
  try simp only [hn]
  generalize (w.alloc (.cells (uL zL32).toArray 83)).alloc (.cells #[.int .u8 128] 5) = W0 at *
  clear hn
  go_loopw [3, 11, 12, 13, 14, 15, 16, 17, 18, 19, 20, 21, 22] (fun s _ _ _ _ _ _ _ _ _ _ _ _ wr => ∃ J : Nat, 1 ≤ J ∧ J - 1 ≤ padN N ∧ (∃ a c, s = .slice a J c) ∧ Hid (OwnU wr (n + 1) s (padP (J - 1))) ∧ Hid (wr.heap[n]? = some (.cells (uL zL32).toArray 83 (0, 0))) ∧ Hid (n + 2 ≤ wr.heap.size) ∧ Hid (Gr w wr)) (fun s _ _ _ _ _ _ _ _ _ _ _ _ _ => 100 - lenV s)
  case atStart => exact ⟨1, Nat.le_refl _, Nat.zero_le _, ⟨_, _, rfl⟩, HO.out, HZ.out, HW0.out, HG.out⟩
  case round =>
    obtain ⟨J, hJ1, hJ2, ⟨a, c, rfl⟩, hO, hZ, hSz, hG⟩ := hrel
    have hJ3 : J ≤ 64 := by have := padN_le N; omega
    have hf := (HB0.out.gr hG.out).facts hlen
    have C0 := hf.c
    have Z0 := hf.z
    obtain ⟨S, hS'⟩ : ∃ S, N + J = S := ⟨_, rfl⟩
    have e1 : IntKind.i64.wrap ((N : Int) + (J : Int)) = (S : Int) := by rw [IntKind.wrap_i64]; omega
    obtain ⟨r, hr⟩ : ∃ r, S % 64 = r := ⟨_, rfl⟩
    have e2 : (S : Int).tmod 64 = (r : Int) := by rw [← hr]; rfl
    have e3 : (S : Int) % 64 = (r : Int) := by omega
    clear hf
    by_cases h56 : r = 56
    · have HJ : Hid (J - 1 = padN N) := padN_small N (J - 1) (by omega) hJ2
      have q0 : ((r : Int) == 56) = true := by rw [h56]; rfl
      have q1 : ((r : Int) != 56) = false := by rw [h56]; rfl
      clear hr hS' h56
      obtain ⟨C, hC⟩ : ∃ C, 8 * N = C := ⟨_, rfl⟩
      have e4 : IntKind.u64.wrap (N : Int) = (N : Int) := wrapU N (by omega)
      have e5 : IntKind.u64.wrap (8 * (N : Int)) = (C : Int) := by rw [IntKind.wrap_u64]; omega
      have HC := Lib.hid hC
      have HOp : Hid (OwnU wr (n + 1) (.slice a J c) (padP (padN N) ++ cntP N 0)) := by show OwnU _ _ _ _; rw [← HJ.out]; simpa [cntP] using hO.out
      have HJ9 : Hid (J = padN N + 1 + 0) := by show _ = _; have := HJ.out; omega
      clear hC hO HO HZ HG
      go_wp2_with fail
      generalize wr = W1 at *
      go_loopw [3, 5, 29, 30, 31, 32, 33, 34, 35, 36, 37, 38, 39, 40, 41] (fun s _ i _ _ _ _ _ _ _ _ _ _ _ _ wr => ∃ k : Nat, k ≤ 8 ∧ i = .int .i64 k ∧ (∃ a c, s = .slice a (J + k) c) ∧ Hid (OwnU wr (n + 1) s (padP (padN N) ++ cntP N k)) ∧ Hid (wr.heap[n]? = some (.cells (uL zL32).toArray 83 (0, 0))) ∧ Hid (n + 2 ≤ wr.heap.size) ∧ Hid (Gr w wr)) (fun _ _ i _ _ _ _ _ _ _ _ _ _ _ _ _ => 8 - (intOf i).toNat)
      case atStart => exact ⟨0, Nat.zero_le _, rfl, ⟨_, _, rfl⟩, HOp.out, hZ.out, hSz.out, hG.out⟩
      case round =>
        obtain ⟨k, hk, rfl, ⟨a1, c1, rfl⟩, hO1, hZ1, hSz1, hG1⟩ := hrel
        by_cases hlt : k < 8
        · have hk1 : (k : Int) < 8 := by omega
          have hk2 : (0 : Int) ≤ (k : Int) := by omega
          obtain ⟨kk, hkk⟩ : ∃ kk, 8 * k = kk := ⟨_, rfl⟩
          have e6 : IntKind.i64.wrap (8 * (k : Int)) = (kk : Int) := by rw [IntKind.wrap_i64]; omega
          obtain ⟨q, hq⟩ : ∃ q, 56 - kk = q := ⟨_, rfl⟩
          have e7 : IntKind.i64.wrap (56 - (kk : Int)) = (q : Int) := by rw [IntKind.wrap_i64]; omega
          have q0 : (0 : Int) ≤ (q : Int) := by omega
          have q2 : (q : Int) ≤ 64 := by omega
          have e8 := byte_shr C q
          obtain ⟨y, hy⟩ : ∃ y, UInt8.ofNat (C / 2 ^ q) = y := ⟨_, rfl⟩
          rw [hy] at e8
          have HP : Hid (padP (padN N) ++ cntP N k ++ [y] = padP (padN N) ++ cntP N (k + 1)) := by show _ = _; rw [List.append_assoc, ← hy, ← HC.out, ← hq, ← hkk, cntP_succ]
          obtain ⟨m, hm⟩ : ∃ m, J + k = m := ⟨_, rfl⟩
          rw [hm] at hO1 ⊢
          have HL : Hid ((padP (padN N) ++ cntP N k).length + 1 = m + 1) := by show _ = _; rw [List.length_append, padP_len, cntP_len]; have := HJ9.out; omega
          have hz9 : n + 1 ≤ wr.heap.size := by have := hSz1.out; omega
          have O7 := Lib.hid (hO1.out.gr ((Gr.refl wr).alloc (.cells #[.int .u8 (y.toNat : Int)] 5)))
          have O8 : Hid (OwnU (wr.alloc (.cells #[.int .u8 (y.toNat : Int)] 5)) (n + 1) (.slice (some ⟨wr.heap.size, 0, none⟩) 1 1) [y]) := OwnU.made (l := [y]) (heap_alloc_new wr _) hz9 (by simp)
          have z7 : n + 1 ≤ (wr.alloc (.cells #[.int .u8 (y.toNat : Int)] 5)).heap.size := by simp; omega
          have hm6 : m + 1 ≤ 1000000 := by have := HJ9.out; have := padN_le N; omega
          have HG7 := Lib.hid (hG1.out.alloc (.cells #[.int .u8 (y.toNat : Int)] 5))
          have HZ7 := Lib.hid ((((Gr.refl wr).alloc (.cells #[.int .u8 (y.toNat : Int)] 5)).block (show n < wr.heap.size by omega)).trans hZ1.out)
          have HMK := Lib.hid hm
          clear hy hq hkk hm
          go_wp2_with (at_builtin; refine wpList_append_u8 _ rfl _ _ rfl (n + 1) (.slice a1 m c1) (padP (padN N) ++ cntP N k) (by simp [Act.eval]) O7.out (.slice (some ⟨wr.heap.size, 0, none⟩) 1 1) [y] (by simp [Act.eval]) O8.out (m + 1) HL.out hm6 z7 ?_; intro a3 n3 w3 ho3 hg3)
          go_roundw
          case rel => exact ⟨k + 1, by omega, by go_num, ⟨a3, n3, by rw [← HMK.out, Nat.add_assoc]⟩, by rw [← HP.out]; exact ho3, grown_block hg3 HZ7.out (fun e => by have := (World.ownsRow.lt O7.out n e).1; omega), Nat.le_trans (by have := hSz1.out; simp; omega) hg3.size, HG7.out.grown hg3 (fun k hk => by have := (World.ownsRow.lt O7.out k hk).1; have := HN.out; omega)⟩
          case measure => simp [intOf]; omega
        · obtain rfl : k = 8 := by omega
          have HPD : Hid (OwnU wr (n + 1) (.slice a1 (J + 8) c1) (padL N)) := by rw [padL_eq]; exact hO1.out
          have HBw := Lib.hid (HB0.out.gr hG1.out)
          have r0 := hasRow_block HBw.out 0 73 (by rw [hs_len _ _ _ hlen]; decide)
          have r1 : rowAt wr ⟨b, 0, none⟩ 73 = hsC st blk N := (rowAt_block HBw.out 0 73 (by rw [hs_len _ _ _ hlen]; decide)).trans (rowOf_all _ _ (hs_len _ _ _ hlen))
          have r2 := hs_len st blk N hlen
          have r3 := hs_one st blk N
          have r4 : b < wr.heap.size := lt_of_heap HBw.out
          have r5 : (hsC zWd zL64 0).length = 73 := rfl
          obtain ⟨m, hm⟩ : ∃ m, wr.heap.size = m := ⟨_, rfl⟩
          have HMN := Lib.hid hm
          have HA := Lib.hid ((Gr.refl wr).alloc (.cells (hsC st blk N).toArray 141))
          have HB3 : Hid (HsAt (wr.alloc (.cells (hsC st blk N).toArray 141)) m st blk (l.length : Int)) := by
            show HsAt _ _ _ _ _
            rw [HNl.out]; exact heap_new _ _ _ hm.symm
          have HK3 : Hid (Kt (wr.alloc (.cells (hsC st blk N).toArray 141))) := (hK.gr hG1.out).gr HA.out
          have HV3 : Hid (BytN (wr.alloc (.cells (hsC st blk N).toArray 141)) (.slice a1 (J + 8) c1) (padL N) m) := (HPD.out.gr HA.out).bytN (fun e => by have := (World.ownsRow.lt HPD.out m e).2; omega)
          have hmK : 3 ≠ m := fun e => by have := (hK.gr hG1.out).lt; omega
          have hml : l.length + (padL N).length ≤ 1000000 := by have := HNl.out; have := padN_le N; rw [padL_len]; omega
          have HN3 : Hid ((wr.alloc (.cells (hsC st blk N).toArray 141)).heap[n]? = some (.cells (uL zL32).toArray 83 (0, 0))) := (HA.out.block (by have := hSz1.out; omega)).trans hZ1.out
          have HG3 := Lib.hid (hG1.out.trans HA.out)
          have HCT := writeC m l (padL N) (.slice a1 (J + 8) c1) st blk _ HK3.out hmK hml HB3.out hlen hS HV3.out
          clear hO1 HK3 HV3 hml hmK HB3 hS
          go_wp2_with (first | (go_at_call 41; refine HCT.mono ?_; clear HCT; rintro e w5 ⟨rfl, ⟨st5, blk5, hb5, hs5⟩, hg5⟩; have hb64 := hs5.1; have HS5 := Lib.hid hs5; have hf5 := hb5.facts hb64; obtain ⟨s1, s2, s3, s4, s5, s6, s7, s8⟩ := hf5; have HN5 := Lib.hid (grown_block hg5 HN3.out (fun e => by have h := Option.some.inj e; have := hSz1.out; omega)); have HG5 := Lib.hid (HG3.out.grown hg5 (fun k hk => by have h := Option.some.inj hk; have := HN.out; have := hSz1.out; have := HMN.out; omega)); clear hg5 hs5))
          refine (digestC st5 w5).mono ?_
          rintro e w6 ⟨rfl, hg6⟩
          have HN6 := Lib.hid ((hg6.block (lt_of_heap HN5.out)).trans HN5.out)
          have HG6 := Lib.hid (HG5.out.trans hg6)
          have f0 := hasRow_block HN6.out 0 32 (by simp [uL_len, zL32_len])
          have f1 := freeRow_block HN6.out 0 32
          have f2 := lt_of_heap HN6.out
          have f3 : (uL (digL st5)).length = 32 := by rw [uL_len, digL_len]
          have f4 := uL_one (digL st5)
          clear s1 s2 s3 s4 s5 s6 s7 s8
          go_wp2_with fail
          have HE : Hid ((w6.setCells n 0 (uL (digL st5))).heap[n]? = some (.cells (uL (digL st5)).toArray 83 (0, 0))) := sets_whole HN6.out (by rw [uL_len, uL_len, digL_len, zL32_len])
          have HG7 := Lib.hid (HG6.out.setsOwn (b := n) (by have := HN.out; omega) (uL (digL st5)) 0)
          have HD : Hid (digL st5 = shaL l) := hst_sum (l := l) (blk := blk5) (by rw [HNl.out]; exact HS5.out)
          refine bodyPost_ret (results_cell_row rfl _ _ n _ _ _ _ rfl HE.out Tryz.underlying83 rfl (by kernel_rfl)) rfl ?_
          exact ⟨by rw [HD.out], HG7.out⟩
    · have hJ9 : J - 1 + 1 ≤ padN N := padN_not N (J - 1) (by omega) hJ2
      have q0 : ((r : Int) == 56) = false := beq_eq_false_iff_ne.2 (by omega)
      have q1 : ((r : Int) != 56) = true := by simp only [bne, q0]; rfl
      have HP : Hid (padP (J - 1) ++ [0] = padP (J + 1 - 1)) := by show _ = _; rw [padP_succ]; congr 1; omega
      have HL : Hid ((padP (J - 1)).length + 1 = J + 1) := by show _ = _; rw [padP_len]; omega
      have hz9 : n + 1 ≤ wr.heap.size := by have := hSz.out; omega
      have O7 := Lib.hid (hO.out.gr ((Gr.refl wr).alloc (.cells #[.int .u8 0] 5)))
      have O8 : Hid (OwnU (wr.alloc (.cells #[.int .u8 0] 5)) (n + 1) (.slice (some ⟨wr.heap.size, 0, none⟩) 1 1) [0]) := OwnU.made (l := [0]) (heap_alloc_new wr _) hz9 (by simp)
      have z7 : n + 1 ≤ (wr.alloc (.cells #[.int .u8 0] 5)).heap.size := by simp; omega
      have hm6 : J + 1 ≤ 1000000 := by omega
      have HG7 := Lib.hid (hG.out.alloc (.cells #[.int .u8 0] 5))
      have HZ7 := Lib.hid ((((Gr.refl wr).alloc (.cells #[.int .u8 0] 5)).block (show n < wr.heap.size by omega)).trans hZ.out)
      clear hr hS' h56
      go_wp2_with (at_builtin; refine wpList_append_u8 _ rfl _ _ rfl (n + 1) (.slice a J c) (padP (J - 1)) (by simp [Act.eval]) O7.out (.slice (some ⟨wr.heap.size, 0, none⟩) 1 1) [0] (by simp [Act.eval]) O8.out (J + 1) HL.out hm6 z7 ?_; intro a3 n3 w3 ho3 hg3)
      go_roundw
      case rel => exact ⟨J + 1, by omega, by omega, ⟨a3, n3, rfl⟩, by rw [← HP.out]; exact ho3, grown_block hg3 HZ7.out (fun e => by have := (World.ownsRow.lt O7.out n e).1; omega), Nat.le_trans (by have := hSz.out; simp; omega) hg3.size, HG7.out.grown hg3 (fun k hk => by have := (World.ownsRow.lt O7.out k hk).1; have := HN.out; omega)⟩
      case measure => simp [lenV]; omega
/-- Bytes that a slice holds. -/
def BytG (W : World) (v : Value) (l : List UInt8) : Prop := ∃ a c, v = .slice a l.length c ∧ l.length ≤ c ∧ (l = [] ∨ ∃ g o, a = some ⟨g, o, none⟩ ∧ ByAt W g o l)
theorem BytG.gr {W W' : World} {v : Value} {l : List UInt8} (h : BytG W v l) (hg : Gr W W') : BytG W' v l := by
  obtain ⟨a, c, h1, h2, h3⟩ := h
  exact ⟨a, c, h1, h2, h3.imp id (fun ⟨g, o, h4, h5⟩ => ⟨g, o, h4, h5.gr hg⟩)⟩
theorem BytG.byN {W W' : World} {v : Value} {l : List UInt8} (h : BytG W v l) (hg : Gr W W') {b : Nat} (hb : W.heap.size ≤ b) : BytN W' v l b := by
  obtain ⟨a, c, h1, h2, h3⟩ := h
  exact ⟨a, c, h1, h2, h3.imp id (fun ⟨g, o, h4, h5⟩ => ⟨g, o, h4, h5.gr hg, by have := h5.1; omega⟩)⟩
theorem OwnU.bytG {w : World} {base : Nat} {v : Value} {l : List UInt8} (h : OwnU w base v l) : BytG w v l := by
  obtain ⟨a, c, h1, h2, h3⟩ := h.bytN (b := w.heap.size) (fun e => by have := (World.ownsRow.lt h _ e).2; omega)
  exact ⟨a, c, h1, h2, h3.imp id (fun ⟨g, o, h4, h5, _⟩ => ⟨g, o, h4, h5⟩)⟩
set_option maxHeartbeats 1000000 in
theorem newC (w : World) : Calls Tryz.prog 40 #[] w fun e w' => e = .returned (.pointer (some ⟨w.heap.size, 0, none⟩)) ∧ w' = w.alloc (.cells (hsC zWd zL64 0).toArray 141) := by
  go_enter Tryz.func40, Tryz.ntmps40
  go_wp2_with fail
  go_ret
  exact ⟨rfl, rfl⟩
set_option maxRecDepth 100000 in
set_option maxHeartbeats 2000000 in
theorem sumC (v : Value) (l : List UInt8) (w : World) (hK : Kt w) (hsmall : l.length ≤ 900000) (hv : BytG w v l) : Calls Tryz.prog 28 #[v] w fun e w' => e = .returned (.agg (uL (shaL l)).toArray) ∧ Gr w w' := by
  obtain ⟨n, hn⟩ : ∃ n, w.heap.size = n := ⟨_, rfl⟩
  have HN := Lib.hid hn
  have HZ : Hid ((w.alloc (.cells (uL zL32).toArray 83)).heap[n]? = some (.cells (uL zL32).toArray 83 (0, 0))) := heap_new _ _ _ hn.symm
  have HG : Hid (Gr w (w.alloc (.cells (uL zL32).toArray 83))) := (Gr.refl w).alloc _
  have HA := Lib.hid ((Gr.refl (w.alloc (.cells (uL zL32).toArray 83))).alloc (.cells (hsC zWd zL64 0).toArray 141))
  have HB : Hid (HsAt ((w.alloc (.cells (uL zL32).toArray 83)).alloc (.cells (hsC zWd zL64 0).toArray 141)) (n + 1) zWd zL64 0) := heap_new _ _ _ (by simp; omega)
  have hc3 : 3 ≠ n + 1 := fun e => by have := hK.lt; omega
  have hWR := writeC (n + 1) [] l v zWd zL64 _ ((hK.gr HG.out).gr HA.out) (fun e => by have := hK.lt; omega) (by simp; omega) HB.out zL64_len (fun h => absurd rfl h) (hv.byN (HG.out.trans HA.out) (by omega))
  have HZ2 := Lib.hid ((HA.out.block (lt_of_heap HZ.out)).trans HZ.out)
  have HG2 := Lib.hid (HG.out.trans HA.out)
  have HK2 := Lib.hid ((hK.gr HG.out).gr HA.out)
  have HSM := Lib.hid hsmall
  clear hv hK HB HA HZ HG hsmall
  go_enter Tryz.func28, Tryz.ntmps28
  go_wp2_with (first | (go_at_call 40; refine (newC _).mono ?_; rintro e w' ⟨rfl, rfl⟩) | (go_at_call 41; refine hWR.mono ?_))
  clear hWR
  rintro e w3 ⟨rfl, ⟨st, blk, hb3, hs3⟩, hg3⟩
  rw [List.nil_append] at hs3
  have HS3 := Lib.hid hs3
  have HB3 : Hid (HsAt w3 (n + 1) st blk (l.length : Int)) := by show HsAt _ _ _ _ _; rw [List.length_nil, Nat.zero_add] at hb3; exact hb3
  have HZ3 := Lib.hid (grown_block hg3 HZ2.out (by simp))
  have HG3 := Lib.hid (HG2.out.grown hg3 (fun k hk => by cases hk; have := HN.out; omega))
  have HK3 := Lib.hid (HK2.out.grown hg3 hc3)
  clear hg3 hb3 hs3
  go_wp2_with (go_at_call 42; refine (hsumC (n + 1) l st blk w3 HK3.out HSM.out HB3.out HS3.out.1 (fun _ => HS3.out)).mono ?_)
  rintro e w4 ⟨rfl, hg4⟩
  have HZ4 := Lib.hid ((hg4.block (lt_of_heap HZ3.out)).trans HZ3.out)
  have HG4 := Lib.hid (HG3.out.trans hg4)
  have f0 := hasRow_block HZ4.out 0 32 (by simp [uL_len, zL32_len])
  have f1 := freeRow_block HZ4.out 0 32
  have f2 := lt_of_heap HZ4.out
  have f3 : (uL (shaL l)).length = 32 := by rw [uL_len, shaL_len]
  have f4 := uL_one (shaL l)
  go_wp2_with fail
  have HE : Hid ((w4.setCells n 0 (uL (shaL l))).heap[n]? = some (.cells (uL (shaL l)).toArray 83 (0, 0))) := sets_whole HZ4.out (by rw [uL_len, uL_len, shaL_len, zL32_len])
  have HG7 := Lib.hid (HG4.out.setsOwn (b := n) (by have := HN.out; omega) (uL (shaL l)) 0)
  refine bodyPost_ret (results_cell_row rfl _ _ n _ _ _ _ rfl HE.out Tryz.underlying83 rfl (by kernel_rfl)) rfl ?_
  exact ⟨rfl, HG7.out⟩
end Go.Proofs.YteknmbijodbfoaaGreatDoor

namespace Go.Proofs.YteknmbijodbfoaaGreatDoor
open Go.RowKit

theorem half_bC (l : List UInt8) : bC (half l) = uL (halfL l) := by
  rw [← uL_bC, half_list]
theorem half_row (l : List UInt8) : rowOf (uL (shaL l)) 0 16 = bC (half l) := by
  rw [half_bC]
  have e : uL (shaL l) = uL (halfL l) ++ uL ((shaL l).drop 16) := by
    unfold halfL uL; rw [← List.map_append, List.take_append_drop]
  rw [e]; exact rowOf_app_l _ _ _ (by rw [uL_len, halfL_len])
theorem bC16_len (x : V16) : (bC x).length = 16 := by simp [bC]
theorem bC16_one (x : V16) : oneB (bC x) = true := by rw [← uL_bC]; exact uL_one _
set_option maxRecDepth 100000 in
set_option maxHeartbeats 2000000 in
theorem sumHalfC (v : Value) (l : List UInt8) (w : World) (hK : Kt w) (hsmall : l.length ≤ 900000) (hv : BytG w v l) : Calls Tryz.prog 15 #[v] w fun e w' => e = .returned (.agg (bC (half l)).toArray) ∧ Gr w w' := by
  obtain ⟨n, hn⟩ : ∃ n, w.heap.size = n := ⟨_, rfl⟩
  have HN := Lib.hid hn
  have HZ : Hid ((w.alloc (.cells (uL zL16).toArray 58)).heap[n]? = some (.cells (uL zL16).toArray 58 (0, 0))) := heap_new _ _ _ hn.symm
  have HG : Hid (Gr w (w.alloc (.cells (uL zL16).toArray 58))) := (Gr.refl w).alloc _
  have HS := sumC v l _ (hK.gr HG.out) hsmall (hv.gr HG.out)
  have f3 : (uL (shaL l)).length = 32 := by rw [uL_len, shaL_len]
  have f4 := uL_one (shaL l)
  clear hv hK
  go_enter Tryz.func15, Tryz.ntmps15
  go_wp2_with (go_at_call 28; refine HS.mono ?_)
  clear HS
  rintro e w1 ⟨rfl, hg1⟩
  have HZ1 := Lib.hid ((hg1.block (lt_of_heap HZ.out)).trans HZ.out)
  have HG1 := Lib.hid (HG.out.trans hg1)
  obtain ⟨m, hm⟩ : ∃ m, w1.heap.size = m := ⟨_, rfl⟩
  have hnm : n < m := hm ▸ lt_of_heap HZ1.out
  have HB2 : Hid ((w1.alloc (.cells (uL (shaL l)).toArray 83)).heap[m]? = some (.cells (uL (shaL l)).toArray 83 (0, 0))) := heap_new _ _ _ hm.symm
  have HZ2 : Hid ((w1.alloc (.cells (uL (shaL l)).toArray 83)).heap[n]? = some (.cells (uL zL16).toArray 58 (0, 0))) := (((Gr.refl w1).alloc _).block (by omega)).trans HZ1.out
  have HG2 := Lib.hid (HG1.out.alloc (.cells (uL (shaL l)).toArray 83))
  have har : ∀ w, (Instr.arrayAt 58 (.slice (some ⟨m, 0, none⟩) 16 32)).run Tryz.prog w = .ok (.pointer (some ⟨m, 0, none⟩)) w := fun w => run_arrayAt (w := w) 58 5 16 _ 16 32 Tryz.underlying58 (Nat.le_refl _)
  have r2 := hasRow_block HB2.out 0 16 (by simp [uL_len, shaL_len])
  have q2 := (rowAt_block HB2.out 0 16 (by simp [uL_len, shaL_len])).trans (half_row l)
  have z0 := hasRow_block HZ2.out 0 16 (by simp [uL_len, zL16_len])
  have z1 := freeRow_block HZ2.out 0 16
  have z2 := lt_of_heap HZ2.out
  have b1 := bC16_len (half l)
  have b2 := bC16_one (half l)
  go_wp2_with fail
  have HE : Hid (((w1.alloc (.cells (uL (shaL l)).toArray 83)).setCells n 0 (bC (half l))).heap[n]? = some (.cells (bC (half l)).toArray 58 (0, 0))) := sets_whole HZ2.out (by rw [uL_len, bC16_len, zL16_len])
  have HG7 := Lib.hid (HG2.out.setsOwn (b := n) (by have := HN.out; omega) (bC (half l)) 0)
  refine bodyPost_ret (results_cell_row rfl _ _ n _ _ _ _ rfl HE.out Tryz.underlying58 rfl (by kernel_rfl)) rfl ?_
  exact ⟨rfl, HG7.out⟩
set_option maxRecDepth 100000 in
set_option maxHeartbeats 2000000 in
theorem hashC (v : Value) (l : List UInt8) (w : World) (hK : Kt w) (hsmall : l.length ≤ 900000) (hv : BytG w v l) : Calls Tryz.prog 62 #[v] w fun e w' => e = .returned (.agg (bC (half l)).toArray) ∧ Gr w w' := by
  obtain ⟨n, hn⟩ : ∃ n, w.heap.size = n := ⟨_, rfl⟩
  have HN := Lib.hid hn
  have HZ : Hid ((w.alloc (.cells (uL zL16).toArray 29)).heap[n]? = some (.cells (uL zL16).toArray 29 (0, 0))) := heap_new _ _ _ hn.symm
  have HG : Hid (Gr w (w.alloc (.cells (uL zL16).toArray 29))) := (Gr.refl w).alloc _
  have HS := sumHalfC v l _ (hK.gr HG.out) hsmall (hv.gr HG.out)
  have b1 := bC16_len (half l)
  have b2 := bC16_one (half l)
  clear hv hK
  go_enter Tryz.func62, Tryz.ntmps62
  go_wp2_with (go_at_call 15; refine HS.mono ?_)
  clear HS
  rintro e w1 ⟨rfl, hg1⟩
  have HZ1 := Lib.hid ((hg1.block (lt_of_heap HZ.out)).trans HZ.out)
  have HG1 := Lib.hid (HG.out.trans hg1)
  have z0 := hasRow_block HZ1.out 0 16 (by simp [uL_len, zL16_len])
  have z1 := freeRow_block HZ1.out 0 16
  have z2 := lt_of_heap HZ1.out
  go_wp2_with fail
  have HE : Hid ((w1.setCells n 0 (bC (half l))).heap[n]? = some (.cells (bC (half l)).toArray 29 (0, 0))) := sets_whole HZ1.out (by rw [uL_len, bC16_len, zL16_len])
  have HG7 := Lib.hid (HG1.out.setsOwn (b := n) (by have := HN.out; omega) (bC (half l)) 0)
  refine bodyPost_ret (results_cell_row rfl _ _ n _ _ _ _ rfl HE.out Tryz.underlying29 rfl (by kernel_rfl)) rfl ?_
  exact ⟨rfl, HG7.out⟩
end Go.Proofs.YteknmbijodbfoaaGreatDoor

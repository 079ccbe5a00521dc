/- onetime.input, first, advance. Rows of 35 values of 16 bytes. onetime.Compress, Public. onetime.Split. onetime.Sign, endsOf, Recover. -/
import Derived.Test.YteknmbijodbfoaaGreatDoorBS
import Derived.Test.YteknmbijodbfoaaGreatDoorBE
import Derived.Deep.RegionHeld3
namespace Go.Proofs.YteknmbijodbfoaaGreatDoor
open Go.RowKit

theorem sizeV16 (x : V16) : (Tryz.prog.info? 29).map (fun x => x.size) = some (bC x).toArray.size := by
  rw [List.size_toArray, bC16_len]; kernel_rfl
theorem wpList_append_u8v (w : World) {ops : Array Oper} {rest : List Oper} {o : Oper} {a : Act} {Q : Exit → Act → World → Prop} (hgd : o.guard = none) (s x : Operand)
    (ho : o.op = .call { callee := .builtin .append, args := #[s, x], argTypes := #[60, 60] }) (base : Nat) (v : Value) (xs : List UInt8) (hs : a.eval s = v) (hown : OwnU w base v xs)
    (sv : Value) (ys : List UInt8) (hx : a.eval x = sv) (hsl : SlAt w sv 1 (rowsU ys)) (n : Nat) (hn : xs.length + ys.length = n) (h63 : n ≤ 1000000) (hbase : base ≤ w.heap.size)
    (h : ∀ a' c' w', OwnU w' base (.slice a' n c') (xs ++ ys) → w.grownBy w' v.ownBlock → wpList Tryz.prog ops Q rest (a.put o.dst (.slice a' n c')) w') :
    wpList Tryz.prog ops Q (o :: rest) a w := by
  subst hn
  obtain ⟨i, z, h1, h2, h3, h4, h5⟩ := infoU
  refine wpList_append_sl w hgd s x 60 ho base 5 i z 1 1 Tryz.underlying60 h1 h2 h3 h4 h5 (by decide) v xs.length (xs.map cU) hs hown sv (rowsU ys) hx hsl (rowsU_len _) (rowsU_one _) (by rw [rowsU_length]; exact h63) (by decide) hbase ?_
  intro a' c' w' ho' hg _
  rw [rowsU_flat, rowsU_length] at ho'
  rw [rowsU_length]
  refine h a' c' w' ?_ hg
  unfold OwnU
  rw [List.map_append, List.length_append]; exact ho'
set_option maxHeartbeats 1000000 in
theorem inputC (tag : UInt8) (leaf : Nat) (w : World) : Calls Tryz.prog 61 #[.int .u8 (tag.toNat : Int), .int .i64 (leaf : Int)] w fun e w' => e = .returned (.slice (some ⟨w.heap.size, 0, none⟩) 5 5) ∧ OwnU w' w.heap.size (.slice (some ⟨w.heap.size, 0, none⟩) 5 5) (inp tag leaf) ∧ Gr w w' := by
  have e1 := byte_shr leaf 24
  have e2 := byte_shr leaf 16
  have e3 := byte_shr leaf 8
  have e4 := byte_of leaf
  have HI : Hid (inp tag leaf = [tag, UInt8.ofNat (leaf / 2 ^ 24), UInt8.ofNat (leaf / 2 ^ 16), UInt8.ofNat (leaf / 2 ^ 8), UInt8.ofNat leaf]) := rfl
  generalize inp tag leaf = l at *
  generalize UInt8.ofNat (leaf / 2 ^ 24) = b1 at *
  generalize UInt8.ofNat (leaf / 2 ^ 16) = b2 at *
  generalize UInt8.ofNat (leaf / 2 ^ 8) = b3 at *
  generalize UInt8.ofNat leaf = b4 at *
  have e1' : IntKind.u8.wrap ((leaf : Int) / 16777216) = (b1.toNat : Int) := e1
  have e2' : IntKind.u8.wrap ((leaf : Int) / 65536) = (b2.toNat : Int) := e2
  have e3' : IntKind.u8.wrap ((leaf : Int) / 256) = (b3.toNat : Int) := e3
  go_enter Tryz.func61, Tryz.ntmps61
  go_wp2_with fail
  go_ret
  exact ⟨rfl, by rw [HI.out]; exact OwnU.made (l := [tag, b1, b2, b3, b4]) (heap_alloc_new w _) (Nat.le_refl _) (by simp), (Gr.refl w).alloc _⟩
theorem inputI (tag : UInt8) (leaf : Nat) (x : Int) (hx : (tag.toNat : Int) = x) (w : World) : Calls Tryz.prog 61 #[.int .u8 x, .int .i64 (leaf : Int)] w fun e w' => e = .returned (.slice (some ⟨w.heap.size, 0, none⟩) 5 5) ∧ OwnU w' w.heap.size (.slice (some ⟨w.heap.size, 0, none⟩) 5 5) (inp tag leaf) ∧ Gr w w' := by
  subst hx; exact inputC tag leaf w
set_option maxRecDepth 100000 in
set_option maxHeartbeats 2000000 in
theorem firstC (seed : Vector UInt8 32) (leaf chain : Nat) (w : World) (hK : Kt w) : Calls Tryz.prog 37 #[.agg (bC seed).toArray, .int .i64 (leaf : Int), .int .i64 (chain : Int)] w fun e w' => e = .returned (.agg (bC (first seed leaf chain)).toArray) ∧ Gr w w' := by
  obtain ⟨n, hn⟩ : ∃ n, w.heap.size = n := ⟨_, rfl⟩
  have HN := Lib.hid hn
  have HB : Hid (ByAt ((w.alloc (.cells (bC seed).toArray 26)).alloc (.cells (bC zAut).toArray 29)) n 0 seed.toList) := (ByAt.vec (heap_new _ _ _ hn.symm)).gr ((Gr.refl _).alloc _)
  have HZ : Hid (((w.alloc (.cells (bC seed).toArray 26)).alloc (.cells (bC zAut).toArray 29)).heap[n + 1]? = some (.cells (bC zAut).toArray 29 (0, 0))) := heap_new _ _ _ (by simp; omega)
  have HG : Hid (Gr w ((w.alloc (.cells (bC seed).toArray 26)).alloc (.cells (bC zAut).toArray 29))) := ((Gr.refl w).alloc _).alloc _
  have HS : Hid (((w.alloc (.cells (bC seed).toArray 26)).alloc (.cells (bC zAut).toArray 29)).heap.size = n + 2) := by show _ = _; simp; omega
  obtain ⟨b, hb⟩ : ∃ b, UInt8.ofNat chain = b := ⟨_, rfl⟩
  have e1 : IntKind.u8.wrap (chain : Int) = (b.toNat : Int) := by rw [← hb]; exact byte_of chain
  have HF : Hid (half (inp 2 leaf ++ [b] ++ seed.toList) = first seed leaf chain) := by show _ = _; rw [← hb]; rfl
  have HK := Lib.hid hK
  clear hb hK
  go_enter Tryz.func37, Tryz.ntmps37
  go_wp2_with fail
  try simp only [hn]
  generalize (w.alloc (.cells (bC seed).toArray 26)).alloc (.cells (bC zAut).toArray 29) = U0 at *
  refine (inputI 2 leaf 2 rfl U0).mono ?_
  rintro e w1 ⟨rfl, hO, hg1⟩
  rw [show U0.heap.size = n + 2 from HS.out] at hO ⊢
  have z1 : n + 2 ≤ w1.heap.size := by rw [← show U0.heap.size = n + 2 from HS.out]; exact hg1.size
  have O7 := Lib.hid (hO.gr ((Gr.refl w1).alloc (.cells #[.int .u8 (b.toNat : Int)] 5)))
  have O8 : Hid (OwnU (w1.alloc (.cells #[.int .u8 (b.toNat : Int)] 5)) (n + 2) (.slice (some ⟨w1.heap.size, 0, none⟩) 1 1) [b]) := OwnU.made (l := [b]) (heap_alloc_new w1 _) z1 (by simp)
  have z7 : n + 2 ≤ (w1.alloc (.cells #[.int .u8 (b.toNat : Int)] 5)).heap.size := by simp; omega
  have hgA := hg1.alloc (.cells #[.int .u8 (b.toNat : Int)] 5)
  have HG1 := Lib.hid (HG.out.trans hgA)
  have HB1 := Lib.hid (HB.out.gr hgA)
  have HZ1 := Lib.hid ((hgA.block (lt_of_heap HZ.out)).trans HZ.out)
  clear hO hg1 hgA
  go_wp2_with (first
    | (at_builtin; refine wpList_append_u8 _ rfl _ _ rfl (n + 2) (.slice (some ⟨n + 2, 0, none⟩) 5 5) (inp 2 leaf) (by simp [Act.eval]) O7.out (.slice (some ⟨w1.heap.size, 0, none⟩) 1 1) [b] (by simp [Act.eval]) O8.out 6 rfl (by decide) z7 ?_; intro a3 n3 w3 ho3 hg3; have HB3 := Lib.hid (HB1.out.grownV (b := n + 2) hg3 (by omega)); have HZ3 := Lib.hid (grown_block hg3 HZ1.out (by simp [Value.ownBlock])); have HG3 := Lib.hid (HG1.out.grown hg3 (fun k hk => by have h : n + 2 = k := Option.some.inj hk; have := HN.out; omega)); have HO3 := Lib.hid ho3; have z3 : n + 2 ≤ w3.heap.size := Nat.le_trans z7 hg3.size; have HSL := Lib.hid (HB3.out.sl 32 32 (by simp) (Nat.le_refl _)); clear ho3 hg3)
    | (at_builtin; refine wpList_append_u8v _ rfl _ _ rfl (n + 2) (.slice a3 6 n3) (inp 2 leaf ++ [b]) (by simp [Act.eval]) HO3.out (.slice (some ⟨n, 0, none⟩) 32 32) seed.toList (by simp [Act.eval]) HSL.out 38 (by simp [inp_len]) (by decide) z3 ?_; intro a5 n5 w5 ho5 hg5))
  have hown : ∀ k, (Value.slice a3 6 n3).ownBlock = some k → n + 2 ≤ k := fun k hk => (World.ownsRow.lt HO3.out k hk).1
  have HZ5 := Lib.hid (grown_block hg5 HZ3.out (fun e => by have := hown _ e; omega))
  have HG5 := Lib.hid (HG3.out.grown hg5 (fun k hk => by have := hown _ hk; have := HN.out; omega))
  have HC := hashC (.slice a5 38 n5) _ w5 (HK.out.gr HG5.out) (by simp [inp_len]) ho5.bytG
  rw [HF.out] at HC
  refine HC.mono ?_
  rintro e w6 ⟨rfl, hg6⟩
  have HZ6 := Lib.hid ((hg6.block (lt_of_heap HZ5.out)).trans HZ5.out)
  have HG6 := Lib.hid (HG5.out.trans hg6)
  have z0 := hasRow_block HZ6.out 0 16 (by simp [bC16_len])
  have z1 := freeRow_block HZ6.out 0 16
  have z2 := lt_of_heap HZ6.out
  have b1 := bC16_len (first seed leaf chain)
  have b2 := bC16_one (first seed leaf chain)
  clear HC hg6 hg5 ho5 HSL O7 O8 HO3
  go_wp2_with fail
  have HE : Hid ((w6.setCells (n + 1) 0 (bC (first seed leaf chain))).heap[n + 1]? = some (.cells (bC (first seed leaf chain)).toArray 29 (0, 0))) := sets_whole HZ6.out (by simp [bC16_len])
  have HG7 := Lib.hid (HG6.out.setsOwn (b := n + 1) (by have := HN.out; omega) (bC (first seed leaf chain)) 0)
  refine bodyPost_ret (results_cell_row rfl _ _ (n + 1) _ _ _ _ rfl HE.out Tryz.underlying29 rfl (sizeV16 _)) rfl ?_
  exact ⟨rfl, HG7.out⟩
set_option maxRecDepth 100000 in
set_option maxHeartbeats 2000000 in
theorem advanceC (leaf chain f t : Nat) (v : V16) (hft : f ≤ t) (ht : t ≤ 15) (w : World) (hK : Kt w) : Calls Tryz.prog 36 #[.int .i64 (leaf : Int), .int .i64 (chain : Int), .int .i64 (f : Int), .int .i64 (t : Int), .agg (bC v).toArray] w fun e w' => e = .returned (.agg (bC (adv leaf chain f (t - f) v)).toArray) ∧ Gr w w' := by
  obtain ⟨n, hn⟩ : ∃ n, w.heap.size = n := ⟨_, rfl⟩
  have HN := Lib.hid hn
  have HB : Hid (((w.alloc (.cells (bC v).toArray 29)).alloc (.cells (bC zAut).toArray 29)).heap[n]? = some (.cells (bC v).toArray 29 (0, 0))) := (((Gr.refl _).alloc _).block (by simp; omega)).trans (heap_new _ _ _ hn.symm)
  have HZ : Hid (((w.alloc (.cells (bC v).toArray 29)).alloc (.cells (bC zAut).toArray 29)).heap[n + 1]? = some (.cells (bC zAut).toArray 29 (0, 0))) := heap_new _ _ _ (by simp; omega)
  have HG : Hid (Gr w ((w.alloc (.cells (bC v).toArray 29)).alloc (.cells (bC zAut).toArray 29))) := ((Gr.refl w).alloc _).alloc _
  have HS : Hid (((w.alloc (.cells (bC v).toArray 29)).alloc (.cells (bC zAut).toArray 29)).heap.size = n + 2) := by show _ = _; simp; omega
  have HK := Lib.hid hK
  obtain ⟨c, hc⟩ : ∃ c, UInt8.ofNat chain = c := ⟨_, rfl⟩
  have e1 : IntKind.u8.wrap (chain : Int) = (c.toNat : Int) := by rw [← hc]; exact byte_of chain
  have HF : Hid (∀ s (x : V16), half (inp 3 leaf ++ [c, UInt8.ofNat s] ++ x.toList) = stepV leaf chain s x) := fun s x => by rw [← hc]; rfl
  clear hc hK
  go_enter Tryz.func36, Tryz.ntmps36
  go_wp2_with fail
  try simp only [hn]
  generalize (w.alloc (.cells (bC v).toArray 29)).alloc (.cells (bC zAut).toArray 29) = U0 at *
  clear hn
  go_loopw [11, 12, 14, 15, 16, 17, 18, 19, 20, 21, 22, 23, 24, 25, 26, 27, 28, 29, 30] (fun s _ _ _ _ _ _ _ _ _ _ _ _ _ _ _ _ _ _ wr => ∃ k : Nat, f + k ≤ t ∧ s = .int .i64 ((f + k : Nat) : Int) ∧ Hid (wr.heap[n]? = some (.cells (bC (adv leaf chain f k v)).toArray 29 (0, 0))) ∧ Hid (wr.heap[n + 1]? = some (.cells (bC zAut).toArray 29 (0, 0))) ∧ Hid (Gr w wr)) (fun s _ _ _ _ _ _ _ _ _ _ _ _ _ _ _ _ _ _ _ => t - (intOf s).toNat)
  case atStart => exact ⟨0, hft, rfl, HB.out, HZ.out, HG.out⟩
  case round =>
    obtain ⟨k, hk, rfl, hB, hZ, hG⟩ := hrel
    obtain ⟨s, hs⟩ : ∃ s, f + k = s := ⟨_, rfl⟩
    have HSt := HF.out s (adv leaf chain f k v)
    have HAS : Hid (stepV leaf chain s (adv leaf chain f k v) = adv leaf chain f (k + 1) v) := by show _ = _; rw [← hs]; rfl
    rw [hs] at hk ⊢
    obtain ⟨b, hb⟩ : ∃ b, UInt8.ofNat s = b := ⟨_, rfl⟩
    rw [hb] at HSt
    have e2 : IntKind.u8.wrap (s : Int) = (b.toNat : Int) := by rw [← hb]; exact byte_of s
    clear hb
    have HEX : Hid (s = t → adv leaf chain f k v = adv leaf chain f (t - f) v) := fun h => by rw [show k = t - f by omega]
    generalize adv leaf chain f k v = x at *
    rw [HAS.out] at HSt
    obtain ⟨y, hy⟩ : ∃ y, adv leaf chain f (k + 1) v = y := ⟨_, rfl⟩
    rw [hy] at HSt
    have HY := Lib.hid hy
    clear hy
    by_cases hlt : s < t
    · have hk1 : (s : Int) < (t : Int) := by omega
      have q1 : wr.heap.size ≥ n + 2 := by have := lt_of_heap hZ.out; omega
      obtain ⟨m, hm⟩ : ∃ m, wr.heap.size = m := ⟨_, rfl⟩
      have HI := Lib.hid (inputI 3 leaf 3 rfl wr)
      rw [hm] at HI
      have HBy : Hid (ByAt wr n 0 x.toList) := ByAt.vec hB.out
      go_wp2_with (first
        | (go_at_call 61; refine HI.out.mono ?_; clear HI; rintro e w1 ⟨rfl, hO, hg1⟩; have z1 : m ≤ w1.heap.size := hm ▸ hg1.size; have O7 := Lib.hid (hO.gr ((Gr.refl w1).alloc (.cells #[.int .u8 (c.toNat : Int), .int .u8 (b.toNat : Int)] 5))); have O8 : Hid (OwnU (w1.alloc (.cells #[.int .u8 (c.toNat : Int), .int .u8 (b.toNat : Int)] 5)) m (.slice (some ⟨w1.heap.size, 0, none⟩) 2 2) [c, b]) := OwnU.made (l := [c, b]) (heap_alloc_new w1 _) z1 (by simp); have z7 : m ≤ (w1.alloc (.cells #[.int .u8 (c.toNat : Int), .int .u8 (b.toNat : Int)] 5)).heap.size := by simp; omega
           have hgA := hg1.alloc (.cells #[.int .u8 (c.toNat : Int), .int .u8 (b.toNat : Int)] 5); have HB1 := Lib.hid (HBy.out.gr hgA); have HG1 := Lib.hid (hgA); clear hO hg1 hgA)
        | (at_builtin; refine wpList_append_u8 _ rfl _ _ rfl m (.slice (some ⟨m, 0, none⟩) 5 5) (inp 3 leaf) (by simp [Act.eval]) O7.out (.slice (some ⟨w1.heap.size, 0, none⟩) 2 2) [c, b] (by simp [Act.eval]) O8.out 7 rfl (by decide) z7 ?_; intro a3 n3 w3 ho3 hg3; have HB3 := Lib.hid (HB1.out.grownV (b := m) hg3 (by omega)); have HG3 := Lib.hid (HG1.out.grown hg3 (fun k hk => by have h : m = k := Option.some.inj hk; omega)); have HO3 := Lib.hid ho3; have z3 : m ≤ w3.heap.size := Nat.le_trans z7 hg3.size; have HSL := Lib.hid (HB3.out.sl 16 16 (by simp) (Nat.le_refl _)); clear ho3 hg3)
        | (at_builtin; refine wpList_append_u8v _ rfl _ _ rfl m (.slice a3 7 n3) (inp 3 leaf ++ [c, b]) (by simp [Act.eval]) HO3.out (.slice (some ⟨n, 0, none⟩) 16 16) x.toList (by simp [Act.eval]) HSL.out 23 (by simp [inp_len]) (by decide) z3 ?_; intro a5 n5 w5 ho5 hg5))
      have hown : ∀ k, (Value.slice a3 7 n3).ownBlock = some k → m ≤ k := fun k hk => (World.ownsRow.lt HO3.out k hk).1
      have HG5 := Lib.hid (HG3.out.grown hg5 (fun k hk => by have := hown _ hk; omega))
      have HC := hashC (.slice a5 23 n5) _ w5 (HK.out.gr (hG.out.trans HG5.out)) (by simp [inp_len]) ho5.bytG
      rw [HSt] at HC
      refine HC.mono ?_
      rintro e w6 ⟨rfl, hg6⟩
      have HG6 := Lib.hid (HG5.out.trans hg6)
      have HB6 := Lib.hid ((HG6.out.block (lt_of_heap hB.out)).trans hB.out)
      have HZ6 := Lib.hid ((HG6.out.block (lt_of_heap hZ.out)).trans hZ.out)
      have z0 := hasRow_block HB6.out 0 16 (by simp [bC16_len])
      have z1 := freeRow_block HB6.out 0 16
      have z2 := lt_of_heap HB6.out
      have b1 := bC16_len y
      have b2 := bC16_one y
      have HGG := Lib.hid (hG.out.trans HG6.out)
      have hi64 : IntKind.i64.wrap ((s : Int) + 1) = ((s + 1 : Nat) : Int) := by rw [IntKind.wrap_i64]; omega
      clear HC hg6 hg5 ho5 HSL O7 O8 HO3
      go_wp2_with fail
      go_roundw
      case rel =>
        refine ⟨k + 1, by omega, by go_num, ?_, ?_, ?_⟩
        · show Hid _
          rw [HY.out]; exact sets_whole HB6.out (by simp [bC16_len])
        · exact (sets_other (by omega) _ _ _).trans HZ6.out
        · exact HGG.out.setsOwn (b := n) (by have := HN.out; omega) (bC y) 0
      case measure => simp [intOf]; omega
    · have hk1 : ¬ (s : Int) < (t : Int) := by omega
      have HE2 : Hid (x = adv leaf chain f (t - f) v) := HEX.out (by omega)
      have z0 := hasRow_block hZ.out 0 16 (by simp [bC16_len])
      have z1 := freeRow_block hZ.out 0 16
      have z2 := lt_of_heap hZ.out
      have z3 := hasRow_block hB.out 0 16 (by simp [bC16_len])
      have z4 := (rowAt_block hB.out 0 16 (by simp [bC16_len])).trans (rowOf_all _ _ (bC16_len x))
      have b1 := bC16_len x
      have b2 := bC16_one x
      go_wp2_with fail
      have HE : Hid ((wr.setCells (n + 1) 0 (bC x)).heap[n + 1]? = some (.cells (bC x).toArray 29 (0, 0))) := sets_whole hZ.out (by simp [bC16_len])
      have HG7 := Lib.hid (hG.out.setsOwn (b := n + 1) (by have := HN.out; omega) (bC x) 0)
      refine bodyPost_ret (results_cell_row rfl _ _ (n + 1) _ _ _ _ rfl HE.out Tryz.underlying29 rfl (sizeV16 _)) rfl ?_
      exact ⟨by rw [HE2.out], HG7.out⟩
end Go.Proofs.YteknmbijodbfoaaGreatDoor

namespace Go.Proofs.YteknmbijodbfoaaGreatDoor
open Go.RowKit

def chG (m n : Nat) (e : Nat → V16) : List Value := (List.range' m n).flatMap fun i => bC (e i)
def chV (e : Nat → V16) : List Value := chG 0 35 e
theorem chG_succ (m r : Nat) (e : Nat → V16) : chG m (r + 1) e = bC (e m) ++ chG (m + 1) r e := by
  unfold chG; rw [List.range'_succ, List.flatMap_cons]
theorem chG_len (e : Nat → V16) : ∀ n m, (chG m n e).length = 16 * n
  | 0, _ => rfl
  | n + 1, m => by rw [chG_succ, List.length_append, bC16_len, chG_len e n]; omega
theorem chG_add (e : Nat → V16) (m k r : Nat) : chG m (k + r) e = chG m k e ++ chG (m + k) r e := by
  unfold chG; rw [← List.range'_append_1, List.flatMap_append]
theorem chG_congr {e e' : Nat → V16} {m n : Nat} (h : ∀ i, m ≤ i → i < m + n → e i = e' i) : chG m n e = chG m n e' := by
  unfold chG
  rw [List.flatMap_def, List.flatMap_def]
  congr 1
  apply List.map_congr_left
  intro i hi
  have := List.mem_range'_1.1 hi
  rw [h i this.1 this.2]
theorem chV_congr {e e' : Nat → V16} (h : ∀ i, i < 35 → e i = e' i) : chV e = chV e' := chG_congr fun i _ hi => h i (by omega)
theorem chV_len (e : Nat → V16) : (chV e).length = 560 := chG_len e 35 0
theorem chV_split (e : Nat → V16) (k : Nat) (hk : k < 35) : chV e = chG 0 k e ++ (bC (e k) ++ chG (k + 1) (34 - k) e) := by
  unfold chV
  rw [show 35 = k + (34 - k + 1) by omega, chG_add, chG_succ, Nat.zero_add]
def upd (e : Nat → V16) (k : Nat) (x : V16) : Nat → V16 := fun i => if i = k then x else e i
theorem chV_upd (e : Nat → V16) (k : Nat) (x : V16) (hk : k < 35) : chV (upd e k x) = chG 0 k e ++ (bC x ++ chG (k + 1) (34 - k) e) := by
  rw [chV_split _ k hk]
  have h1 : upd e k x k = x := by unfold upd; rw [if_pos rfl]
  rw [h1, chG_congr (e := upd e k x) (e' := e) (m := 0) (n := k) (fun i _ hi => by unfold upd; rw [if_neg (by omega)]), chG_congr (e := upd e k x) (e' := e) (m := k + 1) (fun i hi _ => by unfold upd; rw [if_neg (by omega)])]
theorem chV_row (e : Nat → V16) (k : Nat) (hk : k < 35) : rowOf (chV e) (k * 16) 16 = bC (e k) := by
  rw [Nat.mul_comm, chV_split e k hk, rowOf_app_r _ _ _ _ (16 * k) (chG_len e k 0) (Nat.le_refl _), Nat.sub_self, rowOf_app_l _ _ _ (bC16_len _)]
theorem chV_set {W : World} {b : Nat} {t : TypeId} {e : Nat → V16} (h : W.heap[b]? = some (.cells (chV e).toArray t (0, 0))) (k : Nat) (hk : k < 35) (x : V16) : (W.setCells b (k * 16) (bC x)).heap[b]? = some (.cells (chV (upd e k x)).toArray t (0, 0)) := by
  rw [Nat.mul_comm]
  rw [chV_split e k hk] at h
  have := sets_block b t (chG (k + 1) (34 - k) e) (bC x) (chG 0 k e) (bC (e k)) W (by rw [bC16_len, bC16_len]) h
  rw [chG_len e k 0] at this
  rw [chV_upd e k x hk]; exact this
theorem chG_one (e : Nat → V16) : ∀ n m, oneB (chG m n e) = true
  | 0, _ => rfl
  | n + 1, m => by rw [chG_succ]; simp only [oneB_append, bC16_one, chG_one e n, Bool.and_self]
theorem chV_one (e : Nat → V16) : oneB (chV e) = true := chG_one e 35 0
/-- The bytes of the first values. -/
def pre35 (leaf : Nat) (e : Nat → V16) (k : Nat) : List UInt8 := inp 4 leaf ++ (List.range k).flatMap fun i => (e i).toList
theorem pre35_succ (leaf : Nat) (e : Nat → V16) (k : Nat) : pre35 leaf e k ++ (e k).toList = pre35 leaf e (k + 1) := by
  unfold pre35; rw [List.range_succ, List.flatMap_append, List.append_assoc]; simp
theorem pre35_len (leaf : Nat) (e : Nat → V16) (k : Nat) : (pre35 leaf e k).length = 5 + 16 * k := by
  induction k with
  | zero => rfl
  | succ k ih => rw [← pre35_succ, List.length_append, ih, Vector.length_toList]; omega
theorem run_indexV (t : TypeId) (h : Tryz.prog.underlying t = some (.array 35 29)) (e : Nat → V16) (k : Nat) (hk : k < 35) (w : World) : (Instr.index t (.agg (chV e).toArray) (.int .i64 (k : Int))).run Tryz.prog w = .ok (.agg (bC (e k)).toArray) w := by
  have hr := chV_row e k hk
  unfold rowOf at hr
  obtain ⟨i, hi, hz⟩ : ∃ i, Tryz.prog.info? 29 = some i ∧ i.size = 16 := by
    have h0 : (Tryz.prog.info? 29).map (fun x => x.size) = some 16 := by kernel_rfl
    obtain ⟨i, hi, hz⟩ := Option.map_eq_some_iff.1 h0
    exact ⟨i, hi, hz⟩
  simp [Instr.index, asIntOf, run_underlying h, hk, part, isAgg, run_underlying Tryz.underlying29, sizeOf, typeInfo, hi, hz]
  rw [hr]
/-- Two results, the first of them in memory. -/
theorem results_cellT {P : Program} {fn : Func} {p u1 : Tmp} {ty : TypeId} (h : fn.results = #[.cell p ty, .tmp u1]) (tmps : Array Value) (w : World) (g : Nat) (t : TypeId) (cs : Array Value) (fr : Nat × Nat) (d : TypeDesc)
    (hp : tmps.getD p undef = .pointer (some ⟨g, 0, none⟩)) (hg : w.heap[g]? = some (.cells cs t fr))
    (hu : P.underlying ty = some d) (hd : (match d with | .struct _ | .array _ _ => true | _ => false) = true) (hi : (P.info? ty).map (·.size) = some cs.size) :
    (results fn tmps).run P w = .ok (.tuple #[.agg cs, tmps.getD u1 undef]) w := by
  have hp' : tmps[p]?.getD undef = .pointer (some ⟨g, 0, none⟩) := by simpa using hp
  simp [results, h, hp', asAddr, run_loadVar_row w g t ty cs fr d hg hu hd hi]
@[go_sem ↓ high] theorem zeroV35 (w : World) : Sem.run Tryz.prog (zeroValue 42) w = .ok (.agg (chV fun _ => zAut).toArray) w := by kernel_rfl
@[go_sem ↓ high] theorem zeroSg (w : World) : Sem.run Tryz.prog (zeroValue 122) w = .ok (.agg (chV fun _ => zAut).toArray) w := by kernel_rfl
@[go_sem] theorem aggV35 : aggB Tryz.prog 42 = true := by kernel_rfl
@[go_sem] theorem aggSg : aggB Tryz.prog 122 = true := by kernel_rfl
@[go_sem] theorem cellsV35 : Tryz.prog.cellsOf 42 = 560 := by kernel_rfl
@[go_sem] theorem cellsSg : Tryz.prog.cellsOf 122 = 560 := by kernel_rfl
theorem sizeV35 (e : Nat → V16) : (Tryz.prog.info? 42).map (fun x => x.size) = some (chV e).toArray.size := by
  rw [List.size_toArray, chV_len]; kernel_rfl
theorem sizeSg (e : Nat → V16) : (Tryz.prog.info? 122).map (fun x => x.size) = some (chV e).toArray.size := by
  rw [List.size_toArray, chV_len]; kernel_rfl
end Go.Proofs.YteknmbijodbfoaaGreatDoor

namespace Go.Proofs.YteknmbijodbfoaaGreatDoor
open Go.RowKit

theorem isLeafC (leaf : Nat) (hl : leaf ≤ 65535) (w : World) : Calls Tryz.prog 35 #[.int .i64 (leaf : Int)] w fun e w' => e = .returned (.bool true) ∧ w = w' := by
  have h1 : (0 : Int) ≤ (leaf : Int) := by omega
  have h2 : (leaf : Int) ≤ 65535 := by omega
  go_enter Tryz.func35, Tryz.ntmps35
  go_wp2_with fail
  go_ret
  exact ⟨rfl, rfl⟩
set_option maxRecDepth 100000 in
set_option maxHeartbeats 2000000 in
theorem compressC (leaf : Nat) (hl : leaf ≤ 65535) (e : Nat → V16) (w : World) (hK : Kt w) : Calls Tryz.prog 38 #[.int .i64 (leaf : Int), .agg (chV e).toArray] w fun x w' => x = .returned (.tuple #[.agg (bC (compress leaf e)).toArray, .int .i64 0]) ∧ Gr w w' := by
  obtain ⟨n, hn⟩ : ∃ n, w.heap.size = n := ⟨_, rfl⟩
  have HN := Lib.hid hn
  have HB : Hid (((w.alloc (.cells (chV e).toArray 42)).alloc (.cells (bC zAut).toArray 29)).heap[n]? = some (.cells (chV e).toArray 42 (0, 0))) := (((Gr.refl _).alloc _).block (by simp; omega)).trans (heap_new _ _ _ hn.symm)
  have HZ : Hid (((w.alloc (.cells (chV e).toArray 42)).alloc (.cells (bC zAut).toArray 29)).heap[n + 1]? = some (.cells (bC zAut).toArray 29 (0, 0))) := heap_new _ _ _ (by simp; omega)
  have HG : Hid (Gr w ((w.alloc (.cells (chV e).toArray 42)).alloc (.cells (bC zAut).toArray 29))) := ((Gr.refl w).alloc _).alloc _
  have HS : Hid (((w.alloc (.cells (chV e).toArray 42)).alloc (.cells (bC zAut).toArray 29)).heap.size = n + 2) := by show _ = _; simp; omega
  have HK := Lib.hid hK
  have HIL := Lib.hid (isLeafC leaf hl)
  have HIX := Lib.hid (run_indexV 42 Tryz.underlying42 e)
  have b1 := chV_len e
  have b2 := chV_one e
  clear hK
  go_enter Tryz.func38, Tryz.ntmps38
  go_wp2_with (go_at_call 35; refine (HIL.out _).mono ?_; rintro x w' ⟨rfl, rfl⟩)
  try simp only [hn]
  generalize (w.alloc (.cells (chV e).toArray 42)).alloc (.cells (bC zAut).toArray 29) = U0 at *
  clear hn
  refine (inputI 4 leaf 4 rfl U0).mono ?_
  rintro x w1 ⟨rfl, hO, hg1⟩
  rw [show U0.heap.size = n + 2 from HS.out] at hO ⊢
  have hB1 := (hg1.block (lt_of_heap HB.out)).trans HB.out
  have HZ1 := Lib.hid ((hg1.block (lt_of_heap HZ.out)).trans HZ.out)
  have HG1 := Lib.hid (HG.out.trans hg1)
  have HO := Lib.hid hO
  have z3 := hasRow_block hB1 0 560 (by rw [chV_len]; decide)
  have z4 := (rowAt_block hB1 0 560 (by rw [chV_len]; decide)).trans (rowOf_all _ _ (chV_len e))
  have z5 := lt_of_heap hB1
  clear hg1 hO hB1
  go_wp2_with fail
  go_loopw [6, 8, 16, 17, 18, 19, 20, 21, 22] (fun s _ i _ _ _ _ _ _ wr => ∃ k : Nat, k ≤ 35 ∧ (∃ a c, s = .slice a (5 + 16 * k) c) ∧ i = .int .i64 (k : Int) ∧ Hid (OwnU wr (n + 2) s (pre35 leaf e k)) ∧ Hid (wr.heap[n + 1]? = some (.cells (bC zAut).toArray 29 (0, 0))) ∧ Hid (Gr w wr)) (fun _ _ i _ _ _ _ _ _ _ => 35 - (intOf i).toNat)
  case atStart => exact ⟨0, by decide, ⟨_, _, rfl⟩, rfl, HO.out, HZ1.out, HG1.out⟩
  case round =>
    obtain ⟨k, hk, ⟨a, c, rfl⟩, rfl, hO, hZ, hG⟩ := hrel
    by_cases hlt : k < 35
    · have hk1 : (k : Int) < 35 := by omega
      have hk2 : (0 : Int) ≤ (k : Int) := by omega
      have hix := HIX.out k hlt
      have HP := pre35_succ leaf e k
      have HPL := pre35_len leaf e k
      have b3 := bC16_len (e k)
      have b4 := bC16_one (e k)
      generalize e k = x at *
      generalize pre35 leaf e k = p at *
      obtain ⟨m, hm⟩ : ∃ m, 5 + 16 * k = m := ⟨_, rfl⟩
      rw [hm] at hO HPL ⊢
      have q1 : wr.heap.size ≥ n + 2 := lt_of_heap hZ.out
      have hgA := (Gr.refl wr).alloc (.cells (bC x).toArray 29)
      have O7 := Lib.hid (hO.out.gr hgA)
      have HBy : Hid (ByAt (wr.alloc (.cells (bC x).toArray 29)) wr.heap.size 0 x.toList) := ByAt.vec (heap_new _ _ _ rfl)
      have HSL := Lib.hid (HBy.out.sl 16 16 (by simp) (Nat.le_refl _))
      have HZ7 := Lib.hid ((hgA.block (lt_of_heap hZ.out)).trans hZ.out)
      have HG7 := Lib.hid (hG.out.trans hgA)
      have z7 : n + 2 ≤ (wr.alloc (.cells (bC x).toArray 29)).heap.size := by simp; omega
      go_wp2_with (at_builtin; refine wpList_append_u8v _ rfl _ _ rfl (n + 2) (.slice a m c) p (by simp [Act.eval]) O7.out (.slice (some ⟨wr.heap.size, 0, none⟩) 16 16) x.toList (by simp [Act.eval]) HSL.out (m + 16) (by simp [HPL]) (by omega) z7 ?_; intro a5 n5 w5 ho5 hg5)
      have hown : ∀ k, (Value.slice a m c).ownBlock = some k → n + 2 ≤ k := fun k hk => (World.ownsRow.lt O7.out k hk).1
      go_roundw
      case rel => exact ⟨k + 1, by omega, ⟨a5, n5, by rw [show 5 + 16 * (k + 1) = m + 16 by omega]⟩, by go_num, by rw [← HP]; exact ho5, grown_block hg5 HZ7.out (fun e => by have := hown _ e; omega), HG7.out.grown hg5 (fun k hk => by have := hown _ hk; have := HN.out; omega)⟩
      case measure => simp [intOf]; omega
    · obtain rfl : k = 35 := by omega
      have HC := hashC (.slice a 565 c) (compL leaf e) wr (HK.out.gr hG.out) (by rw [show (compL leaf e).length = _ from pre35_len leaf e 35]; decide) (by exact hO.out.bytG)
      have HCP : Hid (half (compL leaf e) = compress leaf e) := rfl
      rw [HCP.out] at HC
      have b3 := bC16_len (compress leaf e)
      have b4 := bC16_one (compress leaf e)
      obtain ⟨y, hy⟩ : ∃ y, compress leaf e = y := ⟨_, rfl⟩
      rw [hy] at HC b3 b4
      have HY := Lib.hid hy
      clear hy
      go_wp2_with (go_at_call 62; refine HC.mono ?_; clear HC; rintro x w6 ⟨rfl, hg6⟩; have HZ6 := Lib.hid ((hg6.block (lt_of_heap hZ.out)).trans hZ.out); have HG6 := Lib.hid (hG.out.trans hg6); have z0 := hasRow_block HZ6.out 0 16 (by simp [bC16_len]); have z1 := freeRow_block HZ6.out 0 16; have z2 := lt_of_heap HZ6.out)
      have HE : Hid ((w6.setCells (n + 1) 0 (bC y)).heap[n + 1]? = some (.cells (bC y).toArray 29 (0, 0))) := sets_whole HZ6.out (by simp [bC16_len])
      have HG7 := Lib.hid (HG6.out.setsOwn (b := n + 1) (by have := HN.out; omega) (bC y) 0)
      refine bodyPost_ret (results_cellT rfl _ _ (n + 1) _ _ _ _ rfl HE.out Tryz.underlying29 rfl (sizeV16 _)) rfl ?_
      exact ⟨by rw [HY.out]; rfl, HG7.out⟩
def ifLt (k : Nat) (e : Nat → V16) : Nat → V16 := fun i => if i < k then e i else zAut
theorem ifLt_zero (e : Nat → V16) : chV (ifLt 0 e) = chV fun _ => zAut := chV_congr fun i _ => by unfold ifLt; rw [if_neg (by omega)]
theorem ifLt_succ (k : Nat) (e : Nat → V16) : chV (upd (ifLt k e) k (e k)) = chV (ifLt (k + 1) e) := chV_congr fun i _ => by
  unfold upd ifLt
  by_cases h : i = k
  · rw [if_pos h, if_pos (by omega), h]
  · rw [if_neg h]
    by_cases h2 : i < k
    · rw [if_pos h2, if_pos (by omega)]
    · rw [if_neg h2, if_neg (by omega)]
theorem ifLt_all (e : Nat → V16) : chV (ifLt 35 e) = chV e := chV_congr fun i hi => by unfold ifLt; rw [if_pos hi]
theorem bC32_len (x : Vector UInt8 32) : (bC x).length = 32 := by simp [bC]
theorem bC32_one (x : Vector UInt8 32) : oneB (bC x) = true := by rw [← uL_bC]; exact uL_one _
set_option maxRecDepth 100000 in
set_option maxHeartbeats 2000000 in
theorem otPublicC (seed : Vector UInt8 32) (leaf : Nat) (hl : leaf ≤ 65535) (w : World) (hK : Kt w) : Calls Tryz.prog 26 #[.agg (bC seed).toArray, .int .i64 (leaf : Int)] w fun x w' => x = .returned (.tuple #[.agg (bC (pubV seed leaf)).toArray, .int .i64 0]) ∧ Gr w w' := by
  obtain ⟨n, hn⟩ : ∃ n, w.heap.size = n := ⟨_, rfl⟩
  have HN := Lib.hid hn
  have h1 := ((Gr.refl w).alloc (.cells (bC seed).toArray 26)).alloc (.cells (bC zAut).toArray 29)
  have HB : Hid ((((w.alloc (.cells (bC seed).toArray 26)).alloc (.cells (bC zAut).toArray 29)).alloc (.cells (chV fun _ => zAut).toArray 42)).heap[n]? = some (.cells (bC seed).toArray 26 (0, 0))) := ((((Gr.refl _).alloc _).alloc _).block (by simp; omega)).trans (heap_new _ _ _ hn.symm)
  have HZ : Hid ((((w.alloc (.cells (bC seed).toArray 26)).alloc (.cells (bC zAut).toArray 29)).alloc (.cells (chV fun _ => zAut).toArray 42)).heap[n + 1]? = some (.cells (bC zAut).toArray 29 (0, 0))) := (((Gr.refl _).alloc _).block (by simp; omega)).trans (heap_new _ _ _ (by simp; omega))
  have HE : Hid ((((w.alloc (.cells (bC seed).toArray 26)).alloc (.cells (bC zAut).toArray 29)).alloc (.cells (chV fun _ => zAut).toArray 42)).heap[n + 2]? = some (.cells (chV fun _ => zAut).toArray 42 (0, 0))) := heap_new _ _ _ (by simp; omega)
  have HG : Hid (Gr w (((w.alloc (.cells (bC seed).toArray 26)).alloc (.cells (bC zAut).toArray 29)).alloc (.cells (chV fun _ => zAut).toArray 42))) := h1.alloc _
  have HK := Lib.hid hK
  have HIL := Lib.hid (isLeafC leaf hl)
  have HPV : Hid (compress leaf (fun i => adv leaf i 0 15 (first seed leaf i)) = pubV seed leaf) := rfl
  have HEI : Hid (∀ k, adv leaf k 0 15 (first seed leaf k) = (fun i => adv leaf i 0 15 (first seed leaf i)) k) := fun _ => rfl
  generalize (fun i => adv leaf i 0 15 (first seed leaf i)) = E at *
  clear hK h1
  go_enter Tryz.func26, Tryz.ntmps26
  go_wp2_with (go_at_call 35; refine (HIL.out _).mono ?_; rintro x w' ⟨rfl, rfl⟩)
  try simp only [hn]
  generalize ((w.alloc (.cells (bC seed).toArray 26)).alloc (.cells (bC zAut).toArray 29)).alloc (.cells (chV fun _ => zAut).toArray 42) = U0 at *
  clear hn
  go_loopw [7, 12, 13, 14, 15, 16, 17, 18, 19, 20, 21, 22, 23, 24] (fun _ i _ _ _ _ _ _ _ _ _ _ _ _ wr => ∃ k : Nat, k ≤ 35 ∧ i = .int .i64 (k : Int) ∧ Hid (wr.heap[n]? = some (.cells (bC seed).toArray 26 (0, 0))) ∧ Hid (wr.heap[n + 1]? = some (.cells (bC zAut).toArray 29 (0, 0))) ∧ Hid (wr.heap[n + 2]? = some (.cells (chV (ifLt k E)).toArray 42 (0, 0))) ∧ Hid (Gr w wr)) (fun _ i _ _ _ _ _ _ _ _ _ _ _ _ _ => 35 - (intOf i).toNat)
  case atStart => exact ⟨0, by decide, rfl, HB.out, HZ.out, by show Hid _; rw [ifLt_zero]; exact HE.out, HG.out⟩
  case round =>
    obtain ⟨k, hk, rfl, hB, hZ, hE, hG⟩ := hrel
    by_cases hlt : k < 35
    · have hk1 : (k : Int) < 35 := by omega
      have hk2 : (0 : Int) ≤ (k : Int) := by omega
      have HX := HEI.out k
      have HSU := Lib.hid (ifLt_succ k E)
      have z0 := hasRow_block hB.out 0 32 (by simp [bC32_len])
      have z1 := (rowAt_block hB.out 0 32 (by simp [bC32_len])).trans (rowOf_all _ _ (bC32_len seed))
      have z2 := lt_of_heap hB.out
      have HF1 := firstC seed leaf k wr (HK.out.gr hG.out)
      have HAD : Hid (∀ W, Gr wr W → Calls Tryz.prog 36 #[.int .i64 (leaf : Int), .int .i64 (k : Int), .int .i64 0, .int .i64 15, .agg (bC (first seed leaf k)).toArray] W fun e w' => e = .returned (.agg (bC (E k)).toArray) ∧ Gr W w') := fun W hW => by
        rw [← HX]; exact advanceC leaf k 0 15 _ (by decide) (by decide) W (HK.out.gr (hG.out.trans hW))
      generalize first seed leaf k = f at *
      have b1 := bC16_len (E k)
      have b2 := bC16_one (E k)
      generalize hEk : E k = x at *
      go_wp2_with (first
        | (go_at_call 37; refine HF1.mono ?_; clear HF1; rintro y w1 ⟨rfl, hg1⟩)
        | (go_at_call 36; refine (HAD.out w1 hg1).mono ?_; clear HAD; rintro y w2 ⟨rfl, hg2⟩; have HGx := Lib.hid (hg1.trans hg2); have HE2 := Lib.hid ((HGx.out.block (lt_of_heap hE.out)).trans hE.out); have y0 : hasRow w2 ⟨n + 1 + 1, k * 16, none⟩ 16 = true := hasRow_block HE2.out (k * 16) 16 (by rw [chV_len]; omega); have y1 : freeRow w2 ⟨n + 1 + 1, k * 16, none⟩ 16 = true := freeRow_block HE2.out (k * 16) 16; have y2 : n + 1 + 1 < w2.heap.size := lt_of_heap HE2.out))
      go_roundw
      case rel =>
        refine ⟨k + 1, by omega, by go_num, ?_, ?_, ?_, ?_⟩
        · exact (sets_other (by omega) _ _ _).trans ((HGx.out.block (lt_of_heap hB.out)).trans hB.out)
        · exact (sets_other (by omega) _ _ _).trans ((HGx.out.block (lt_of_heap hZ.out)).trans hZ.out)
        · show Hid _
          rw [← HSU.out]
          exact chV_set HE2.out k hlt x
        · exact (hG.out.trans HGx.out).setsOwn (b := n + 1 + 1) (by have := HN.out; omega) (bC x) _
      case measure => simp [intOf]; omega
    · obtain rfl : k = 35 := by omega
      have hE5 := hE.out
      rw [ifLt_all] at hE5
      have HC := compressC leaf hl E wr (HK.out.gr hG.out)
      rw [HPV.out] at HC
      have z0 : hasRow wr ⟨n + 1 + 1, 0, none⟩ 560 = true := hasRow_block hE5 0 560 (by rw [chV_len]; decide)
      have z1 : rowAt wr ⟨n + 1 + 1, 0, none⟩ 560 = chV E := (rowAt_block hE5 0 560 (by rw [chV_len]; decide)).trans (rowOf_all _ _ (chV_len E))
      have z2 : n + 1 + 1 < wr.heap.size := lt_of_heap hE5
      have b3 := bC16_len (pubV seed leaf)
      have b4 := bC16_one (pubV seed leaf)
      have b5 := chV_len E
      have b6 := chV_one E
      obtain ⟨y, hy⟩ : ∃ y, pubV seed leaf = y := ⟨_, rfl⟩
      rw [hy] at HC b3 b4
      have HY := Lib.hid hy
      clear hy hE5
      go_wp2_with (go_at_call 38; refine HC.mono ?_; clear HC; rintro x w6 ⟨rfl, hg6⟩; have HZ6 := Lib.hid ((hg6.block (lt_of_heap hZ.out)).trans hZ.out); have HG6 := Lib.hid (hG.out.trans hg6); have q0 := hasRow_block HZ6.out 0 16 (by simp [bC16_len]); have q1 := freeRow_block HZ6.out 0 16; have q2 := lt_of_heap HZ6.out)
      have HE : Hid ((w6.setCells (n + 1) 0 (bC y)).heap[n + 1]? = some (.cells (bC y).toArray 29 (0, 0))) := sets_whole HZ6.out (by simp [bC16_len])
      have HG7 := Lib.hid (HG6.out.setsOwn (b := n + 1) (by have := HN.out; omega) (bC y) 0)
      refine bodyPost_ret (results_cellT rfl _ _ (n + 1) _ _ _ _ rfl HE.out Tryz.underlying29 rfl (sizeV16 _)) rfl ?_
      exact ⟨by rw [HY.out]; rfl, HG7.out⟩
end Go.Proofs.YteknmbijodbfoaaGreatDoor

namespace Go.Proofs.YteknmbijodbfoaaGreatDoor
open Go.RowKit

def dgC (l : List Nat) : List Value := l.map fun x : Nat => Value.int .i64 (x : Int)
theorem dgC_len (l : List Nat) : (dgC l).length = l.length := by simp [dgC]
theorem dgC_set (l : List Nat) (k x : Nat) : (dgC l).set k (.int .i64 (x : Int)) = dgC (l.set k x) := by unfold dgC; rw [← List.map_set]
theorem dgC_one (l : List Nat) : oneB (dgC l) = true := by
  simp only [oneB, dgC, List.all_map, List.all_eq_true]; intro b _; rfl
theorem dgC_at (l : List Nat) (k : Nat) (h : k < l.length) : (dgC l)[k]? = some (.int .i64 (l[k] : Int)) := by
  unfold dgC; rw [List.getElem?_map, List.getElem?_eq_getElem h]; rfl
def padD (l : List Nat) : List Nat := l ++ List.replicate (35 - l.length) 0
theorem padD_len (l : List Nat) (h : l.length ≤ 35) : (padD l).length = 35 := by unfold padD; simp; omega
theorem padD_set (l : List Nat) (h : l.length < 35) (x : Nat) : (padD l).set l.length x = padD (l ++ [x]) := by
  unfold padD
  obtain ⟨m, hm⟩ : ∃ m, 35 - l.length = m + 1 := ⟨34 - l.length, by omega⟩
  rw [List.set_append_right _ _ (Nat.le_refl _), Nat.sub_self, hm, List.replicate_succ, List.set_cons_zero, List.length_append, List.length_singleton, show 35 - (l.length + 1) = m by omega]
  simp
theorem sumN_snoc (l : List Nat) (x : Nat) : sumN (l ++ [x]) = sumN l + (15 - x) := by unfold sumN; simp
theorem digN_snoc (l : List UInt8) (b : UInt8) : digN (l ++ [b]) = digN l ++ [hiN b] ++ [loN b] := by unfold digN; simp
theorem splN_pad (l : List UInt8) (h : l.length = 16) : (((padD (digN l)).set 32 (sumN (digN l) / 256)).set 33 (sumN (digN l) / 16 % 16)).set 34 (sumN (digN l) % 16) = splN l := by
  have h32 : (digN l).length = 32 := by rw [digN_len]; omega
  unfold splN
  generalize sumN (digN l) / 256 = a
  generalize sumN (digN l) / 16 % 16 = b
  generalize sumN (digN l) % 16 = c
  have e1 := padD_set (digN l) (by omega) a
  have e2 := padD_set (digN l ++ [a]) (by simp; omega) b
  have e3 := padD_set (digN l ++ [a] ++ [b]) (by simp; omega) c
  simp only [List.length_append, List.length_singleton, h32] at e1 e2 e3
  rw [e1, e2, e3]
  unfold padD
  simp [h32]
theorem andi15 : ∀ x : Fin 512, bits .and .i64 (x.val : Int) 15 = ((x.val % 16 : Nat) : Int) := by decide +kernel
theorem dg_put {W : World} {b : Nat} {t : TypeId} {l : List Nat} (h : W.heap[b]? = some (.cells (dgC l).toArray t (0, 0))) (k x : Nat) : (W.setCell ⟨b, k, none⟩ (.int .i64 (x : Int))).heap[b]? = some (.cells (dgC (l.set k x)).toArray t (0, 0)) := by
  rw [heap_setCell_same W b k _ t _ h, ← dgC_set]; simp
set_option maxRecDepth 100000 in
set_option maxHeartbeats 2000000 in
theorem collectC (X : Nat) (l : List Nat) (s j d : Nat) (W : World) (hd : d ≤ 15) (hj : j < 35) (hs : s ≤ 1000) (hl : l.length = 35) (h1 : W.heap[X]? = some (.cells (dgC l).toArray 162 (0, 0)))
    (h2 : W.heap[X + 1]? = some (.cells #[.int .i64 (j : Int)] 3 (0, 0))) (h3 : W.heap[X + 1 + 1]? = some (.cells #[.int .i64 (s : Int)] 3 (0, 0))) :
    Calls Tryz.prog 104 #[.int .i64 (d : Int), .pointer (some ⟨X, 0, none⟩), .pointer (some ⟨X + 1, 0, none⟩), .pointer (some ⟨X + 1 + 1, 0, none⟩)] W fun e W' => e = .returned (.tuple #[]) ∧
      W'.heap[X]? = some (.cells (dgC (l.set j d)).toArray 162 (0, 0)) ∧ W'.heap[X + 1]? = some (.cells #[.int .i64 ((j + 1 : Nat) : Int)] 3 (0, 0)) ∧ W'.heap[X + 1 + 1]? = some (.cells #[.int .i64 ((s + (15 - d) : Nat) : Int)] 3 (0, 0)) ∧
      (∀ w0, Gr w0 W → w0.heap.size ≤ X → Gr w0 W') ∧ (∀ i, i < X → W'.heap[i]? = W.heap[i]?) := by
  have c2 : W.cell? ⟨X + 1, 0, none⟩ = some (.int .i64 (j : Int)) := cell_block (cs := [.int .i64 (j : Int)]) h2 0
  have c3 : W.cell? ⟨X + 1 + 1, 0, none⟩ = some (.int .i64 (s : Int)) := cell_block (cs := [.int .i64 (s : Int)]) h3 0
  have c1 : W.cell? ⟨X, j, none⟩ = some (.int .i64 (l[j] : Int)) := (cell_block h1 j).trans (dgC_at l j (by omega))
  have f1 := free_block h1 j
  have f2 := free_block (cs := [.int .i64 (j : Int)]) h2 0
  have f3 := free_block (cs := [.int .i64 (s : Int)]) h3 0
  have z1 := lt_of_heap h1
  have z2 := lt_of_heap h2
  have z3 := lt_of_heap h3
  have j0 : (0 : Int) ≤ (j : Int) := by omega
  have j1 : (j : Int) < 35 := by omega
  have e1 : IntKind.i64.wrap ((j : Int) + 1) = ((j + 1 : Nat) : Int) := by rw [IntKind.wrap_i64]; omega
  have e2 : IntKind.i64.wrap (15 - (d : Int)) = ((15 - d : Nat) : Int) := by rw [IntKind.wrap_i64]; omega
  obtain ⟨q, hq⟩ : ∃ q, 15 - d = q := ⟨_, rfl⟩
  rw [hq] at e2 ⊢
  have e3 : IntKind.i64.wrap ((s : Int) + (q : Int)) = ((s + q : Nat) : Int) := by rw [IntKind.wrap_i64]; omega
  have H1 := Lib.hid h1; have H2 := Lib.hid h2; have H3 := Lib.hid h3
  clear h1 h2 h3
  go_enter Tryz.func104, Tryz.ntmps104
  go_wp2_with fail
  refine bodyPost_endU (fn := Tryz.f104) rfl rfl ?_
  refine ⟨rfl, ?_, ?_, ?_, ?_, ?_⟩
  · rw [heap_setCell_other _ ⟨X + 1, 0, none⟩ X _ (by show X ≠ X + 1; omega), heap_setCell_other _ ⟨X + 1 + 1, 0, none⟩ X _ (by show X ≠ X + 1 + 1; omega)]
    exact dg_put H1.out j d
  · have h := (heap_setCell_other (W.setCell ⟨X, j, none⟩ (.int .i64 (d : Int))) ⟨X + 1 + 1, 0, none⟩ (X + 1) (.int .i64 ((s : Int) + (q : Int))) (by show X + 1 ≠ X + 1 + 1; omega)).trans ((heap_setCell_other W ⟨X, j, none⟩ (X + 1) (.int .i64 (d : Int)) (by show X + 1 ≠ X; omega)).trans H2.out)
    rw [heap_setCell_same _ (X + 1) 0 _ _ _ h]; simp
  · rw [heap_setCell_other _ ⟨X + 1, 0, none⟩ (X + 1 + 1) _ (by show X + 1 + 1 ≠ X + 1; omega)]
    have h := (heap_setCell_other W ⟨X, j, none⟩ (X + 1 + 1) (.int .i64 (d : Int)) (by show X + 1 + 1 ≠ X; omega)).trans H3.out
    rw [heap_setCell_same _ (X + 1 + 1) 0 _ _ _ h]; simp
  · intro w0 hg hx
    exact ((hg.setOwn hx _).setOwn (by omega) _).setOwn (by omega) _
  · intro i hi
    rw [heap_setCell_other _ ⟨X + 1, 0, none⟩ i _ (by show i ≠ X + 1; omega), heap_setCell_other _ ⟨X + 1 + 1, 0, none⟩ i _ (by show i ≠ X + 1 + 1; omega), heap_setCell_other _ ⟨X, j, none⟩ i _ (by show i ≠ X; omega)]
theorem zeroD35 (w : World) : Sem.run Tryz.prog (zeroValue 162) w = .ok (.agg (dgC (padD [])).toArray) w := by kernel_rfl
@[go_sem] theorem aggD35 : aggB Tryz.prog 162 = true := by kernel_rfl
@[go_sem] theorem cellsD35 : Tryz.prog.cellsOf 162 = 35 := by kernel_rfl
theorem sizeD35 (l : List Nat) (h : l.length = 35) : (Tryz.prog.info? 162).map (fun x => x.size) = some (dgC l).toArray.size := by
  rw [List.size_toArray, dgC_len, h]; kernel_rfl
set_option maxRecDepth 100000 in
set_option maxHeartbeats 2000000 in
theorem splitC (d : V16) (w : World) : Calls Tryz.prog 83 #[.agg (bC d).toArray] w fun e w' => e = .returned (.agg (dgC (splN d.toList)).toArray) ∧ Gr w w' := by
  obtain ⟨n, hn⟩ : ∃ n, w.heap.size = n := ⟨_, rfl⟩
  have HN := Lib.hid hn
  have eg : ∀ args w, (callFunc 104 args).run Tryz.prog w = .ok (.enter 104 args) w := enters_of Tryz.func104 (by kernel_rfl) rfl
  have b1 := bC16_len d
  have b2 := bC16_one d
  have HZP : Hid (padD [] = padD (digN (d.toList.take 0))) := rfl
  obtain ⟨z, hz⟩ : ∃ z, padD [] = z := ⟨_, rfl⟩
  have hzr : ∀ w, Sem.run Tryz.prog (zeroValue 162) w = .ok (.agg (dgC z).toArray) w := fun w => by rw [← hz]; exact zeroD35 w
  rw [hz] at HZP
  have hzl : z.length = 35 := by rw [← hz]; rfl
  clear hz
  obtain ⟨U0, hU⟩ : ∃ U0, ((((w.alloc (.cells (bC d).toArray 29)).alloc (.cells (dgC z).toArray 162)).alloc (.cells (dgC z).toArray 162)).alloc (.cells #[.int .i64 0] 3)).alloc (.cells #[.int .i64 0] 3) = U0 := ⟨_, rfl⟩
  have g1 := (Gr.refl w).alloc (.cells (bC d).toArray 29)
  have s1 : (w.alloc (.cells (bC d).toArray 29)).heap.size = n + 1 := by simp; omega
  have H1 : Hid (U0.heap[n + 1]? = some (.cells (dgC z).toArray 162 (0, 0))) := by
    show _ = _; rw [← hU]
    exact (((((Gr.refl _).alloc _).alloc _).alloc _).block (by simp; omega)).trans (heap_new _ _ _ (by simp; omega))
  have H2 : Hid (U0.heap[n + 1 + 1]? = some (.cells (dgC z).toArray 162 (0, 0))) := by
    show _ = _; rw [← hU]
    exact ((((Gr.refl _).alloc _).alloc _).block (by simp; omega)).trans (heap_new _ _ _ (by simp; omega))
  have H3 : Hid (U0.heap[n + 1 + 1 + 1]? = some (.cells #[.int .i64 0] 3 (0, 0))) := by
    show _ = _; rw [← hU]
    exact (((Gr.refl _).alloc _).block (by simp; omega)).trans (heap_new _ _ _ (by simp; omega))
  have H4 : Hid (U0.heap[n + 1 + 1 + 1 + 1]? = some (.cells #[.int .i64 0] 3 (0, 0))) := by
    show _ = _; rw [← hU]
    exact heap_new _ _ _ (by simp; omega)
  have HG : Hid (Gr w U0) := by show Gr _ _; rw [← hU]; exact (((g1.alloc _).alloc _).alloc _).alloc _
  clear g1 s1
  replace hU := Lib.hid hU
  go_enter Tryz.func83, Tryz.ntmps83
  go_wp2_with fail
  rw [hU.out]
  clear hU hn
  go_loopw [8, 11, 12, 13, 14, 15, 16, 17, 18, 19, 20, 21, 22, 23, 24] (fun _ i _ _ _ _ _ _ _ _ _ _ _ _ _ wr => ∃ k : Nat, k ≤ 16 ∧ i = .int .i64 (k : Int) ∧ Hid (wr.heap[n + 1]? = some (.cells (dgC z).toArray 162 (0, 0))) ∧ Hid (wr.heap[n + 1 + 1]? = some (.cells (dgC (padD (digN (d.toList.take k)))).toArray 162 (0, 0))) ∧ Hid (wr.heap[n + 1 + 1 + 1]? = some (.cells #[.int .i64 ((2 * k : Nat) : Int)] 3 (0, 0))) ∧ Hid (wr.heap[n + 1 + 1 + 1 + 1]? = some (.cells #[.int .i64 ((sumN (digN (d.toList.take k)) : Nat) : Int)] 3 (0, 0))) ∧ Hid (Gr w wr)) (fun _ i _ _ _ _ _ _ _ _ _ _ _ _ _ _ => 16 - (intOf i).toNat)
  case atStart => exact ⟨0, by decide, rfl, H1.out, by show Hid _; rw [← HZP.out]; exact H2.out, H3.out, H4.out, HG.out⟩
  case round =>
    obtain ⟨k, hk, rfl, h1, h2, h3, h4, hG⟩ := hrel
    by_cases hlt : k < 16
    · have hk1 : (k : Int) < 16 := by omega
      have hk2 : (0 : Int) ≤ (k : Int) := by omega
      have hix := run_indexA 29 Tryz.underlying29 d k hlt
      have HD : Hid (digN (d.toList.take (k + 1)) = digN (d.toList.take k) ++ [hiN d[k]] ++ [loN d[k]]) := by
        show _ = _
        rw [← digN_snoc]; congr 1
        rw [List.take_succ_eq_append_getElem (by simpa using hlt)]; simp
      have HL : Hid ((digN (d.toList.take k)).length = 2 * k) := by show _ = _; rw [digN_len]; simp; omega
      have HSM : Hid (sumN (digN (d.toList.take k)) ≤ 480) := by have := sumN_le (digN (d.toList.take k)); rw [HL.out] at this; show _ ≤ _; omega
      generalize digN (d.toList.take k) = ds at *
      have hand := and15 d[k]
      have hx := d[k].toNat_lt
      obtain ⟨q, hq, hq15, hqx⟩ : ∃ q : Nat, (d[k].toNat : Int) / 16 = (q : Int) ∧ q ≤ 15 ∧ hiN d[k] = q := ⟨d[k].toNat / 16, by omega, by omega, rfl⟩
      obtain ⟨r, hr, hr15, hrx⟩ : ∃ r : Nat, d[k].toNat % 16 = r ∧ r ≤ 15 ∧ loN d[k] = r := ⟨d[k].toNat % 16, rfl, by omega, rfl⟩
      rw [hr] at hand
      have HD2 := HD.out
      rw [hqx, hrx] at HD2
      clear hr hrx hqx HD
      generalize d[k].toNat = x at *
      have HC1 := collectC (n + 1 + 1) (padD ds) (sumN ds) (2 * k) q wr hq15 (by omega) (by have := HSM.out; omega) (padD_len _ (by have := HL.out; omega)) h2.out h3.out h4.out
      have e1 := padD_set ds (by have := HL.out; omega) q
      rw [HL.out] at e1
      rw [e1, ← sumN_snoc] at HC1
      have HL1 : Hid ((ds ++ [q]).length = 2 * k + 1) := by show _ = _; simp [HL.out]
      have HS1 : Hid (sumN (ds ++ [q]) ≤ 500) := by show _ ≤ _; rw [sumN_snoc]; have := HSM.out; omega
      generalize hds : ds ++ [q] = ds1 at *
      have e2 := padD_set ds1 (by have := HL1.out; omega) r
      rw [HL1.out] at e2
      go_wp2_with (first
        | (go_at_call 104; refine HC1.mono ?_; clear HC1; rintro e w1 ⟨rfl, hx1, hx2, hx3, hx4, hx5⟩; have HX := Lib.hid (And.intro hx1 (And.intro hx2 (And.intro hx3 (And.intro hx4 hx5)))); clear hx1 hx2 hx3 hx4 hx5)
        | (go_at_call 104; refine (collectC (n + 1 + 1) (padD ds1) (sumN ds1) (2 * k + 1) r w1 hr15 (by omega) (by have := HS1.out; omega) (padD_len _ (by have := HL1.out; omega)) HX.out.1 HX.out.2.1 HX.out.2.2.1).mono ?_; rintro e w2 ⟨rfl, hx1, hx2, hx3, hx4, hx5⟩; have HY := Lib.hid (And.intro hx1 (And.intro hx2 (And.intro hx3 (And.intro hx4 hx5)))); clear hx1 hx2 hx3 hx4 hx5))
      go_roundw
      case rel =>
        refine ⟨k + 1, by omega, by go_num, ?_, ?_, ?_, ?_, ?_⟩
        · exact (HY.out.2.2.2.2 _ (by omega)).trans ((HX.out.2.2.2.2 _ (by omega)).trans h1.out)
        · show Hid _
          rw [HD2, ← e2]; exact HY.out.1
        · exact HY.out.2.1
        · show Hid _
          rw [HD2, sumN_snoc]; exact HY.out.2.2.1
        · exact HY.out.2.2.2.1 w (HX.out.2.2.2.1 w hG.out (by have := HN.out; omega)) (by have := HN.out; omega)
      case measure => simp [intOf]; omega
    · obtain rfl : k = 16 := by omega
      have hds : d.toList.take 16 = d.toList := List.take_of_length_le (by simp)
      rw [hds] at h2 h4
      have HSP := Lib.hid (splN_pad d.toList (by simp))
      have HSM : Hid (sumN (digN d.toList) ≤ 480) := by have := sumN_le (digN d.toList); rw [digN_len] at this; simp at this; show _ ≤ _; omega
      have HPL : Hid ((padD (digN d.toList)).length = 35) := padD_len _ (by rw [digN_len]; simp)
      obtain ⟨sp, hsp⟩ : ∃ sp, splN d.toList = sp := ⟨_, rfl⟩
      rw [hsp] at HSP
      replace hsp := Lib.hid hsp
      generalize sumN (digN d.toList) = s at *
      generalize padD (digN d.toList) = pd at *
      clear hds
      obtain ⟨a, ha⟩ : ∃ a, s / 256 = a := ⟨_, rfl⟩
      obtain ⟨c, hc⟩ : ∃ c, s / 16 = c := ⟨_, rfl⟩
      obtain ⟨b, hb⟩ : ∃ b, c % 16 = b := ⟨_, rfl⟩
      obtain ⟨g, hg⟩ : ∃ g, s % 16 = g := ⟨_, rfl⟩
      have hs := HSM.out
      have a1 : (s : Int) / 256 = (a : Int) := by omega
      have a2 : (s : Int) / 16 = (c : Int) := by omega
      have a3 : bits .and .i64 (c : Int) 15 = (b : Int) := (andi15 ⟨c, by omega⟩).trans (by show ((c % 16 : Nat) : Int) = _; rw [hb])
      have a4 : bits .and .i64 (s : Int) 15 = (g : Int) := (andi15 ⟨s, by omega⟩).trans (by show ((s % 16 : Nat) : Int) = _; rw [hg])
      rw [ha, hc, hb, hg] at HSP
      have c4 : wr.cell? ⟨n + 1 + 1 + 1 + 1, 0, none⟩ = some (.int .i64 (s : Int)) := cell_block (cs := [.int .i64 (s : Int)]) h4.out 0
      have c1 : ∀ j, j < 35 → ∃ v, wr.cell? ⟨n + 1 + 1, j, none⟩ = some v := fun j hj => ⟨_, (cell_block h2.out j).trans (dgC_at pd j (by have := HPL.out; omega))⟩
      obtain ⟨v32, p32⟩ := c1 32 (by decide)
      obtain ⟨v33, p33⟩ := c1 33 (by decide)
      obtain ⟨v34, p34⟩ := c1 34 (by decide)
      have f32 := free_block h2.out 32
      have f33 := free_block h2.out 33
      have f34 := free_block h2.out 34
      have z2 := lt_of_heap h2.out
      have z4 := lt_of_heap h4.out
      clear ha hc hb hg c1 eg hzr
      go_wp2_with fail
      go_region_held3 (fun u => u.cell? ⟨n + 1 + 1 + 1 + 1, 0, none⟩ = some (.int .i64 (s : Int))) (first | exact c4 | (go_simp; done)) (fail)
      have k2 := dg_put (dg_put (dg_put h2.out 32 a) 33 b) 34 g
      rw [HSP.out] at k2
      have K2 := Lib.hid k2
      have K1 : Hid ((((wr.setCell ⟨n + 1 + 1, 32, none⟩ (.int .i64 (a : Int))).setCell ⟨n + 1 + 1, 33, none⟩ (.int .i64 (b : Int))).setCell ⟨n + 1 + 1, 34, none⟩ (.int .i64 (g : Int))).heap[n + 1]? = some (.cells (dgC z).toArray 162 (0, 0))) := by
        show _ = _
        rw [heap_setCell_other _ ⟨n + 1 + 1, 34, none⟩ (n + 1) _ (by show n + 1 ≠ n + 1 + 1; omega), heap_setCell_other _ ⟨n + 1 + 1, 33, none⟩ (n + 1) _ (by show n + 1 ≠ n + 1 + 1; omega), heap_setCell_other _ ⟨n + 1 + 1, 32, none⟩ (n + 1) _ (by show n + 1 ≠ n + 1 + 1; omega)]
        exact h1.out
      have KG : Hid (Gr w (((wr.setCell ⟨n + 1 + 1, 32, none⟩ (.int .i64 (a : Int))).setCell ⟨n + 1 + 1, 33, none⟩ (.int .i64 (b : Int))).setCell ⟨n + 1 + 1, 34, none⟩ (.int .i64 (g : Int)))) := ((hG.out.setOwn (by have := HN.out; omega) _).setOwn (by have := HN.out; omega) _).setOwn (by have := HN.out; omega) _
      have HSL : Hid (sp.length = 35) := by show _ = _; rw [← HSP.out]; simp [HPL.out]
      clear k2 p32 p33 p34 f32 f33 f34 z2 z4 c4 h1 h2 h3 h4 hG a1 a2 a3 a4 H1 H2 H3 H4 HG HSP
      generalize ((wr.setCell ⟨n + 1 + 1, 32, none⟩ (.int .i64 (a : Int))).setCell ⟨n + 1 + 1, 33, none⟩ (.int .i64 (b : Int))).setCell ⟨n + 1 + 1, 34, none⟩ (.int .i64 (g : Int)) = W3 at *
      have K1d : Hid (W3.drew.heap[n + 1]? = some (.cells (dgC z).toArray 162 (0, 0))) := K1.out
      have K2d : Hid (W3.drew.heap[n + 1 + 1]? = some (.cells (dgC sp).toArray 162 (0, 0))) := K2.out
      have KGd : Hid (Gr w W3.drew) := KG.out.drew
      clear K1 K2 KG
      generalize W3.drew = W4 at *
      have z0 := hasRow_block K1d.out 0 35 (by rw [dgC_len]; omega)
      have z1 := freeRow_block K1d.out 0 35
      have z2 := lt_of_heap K1d.out
      have y0 := hasRow_block K2d.out 0 35 (by rw [dgC_len, HSL.out]; decide)
      have y1 := (rowAt_block K2d.out 0 35 (by rw [dgC_len, HSL.out]; decide)).trans (rowOf_all _ _ (by rw [dgC_len, HSL.out]))
      have y2 := lt_of_heap K2d.out
      have y3 := dgC_one sp
      have y4 : (dgC sp).length = 35 := by rw [dgC_len, HSL.out]
      go_wp2_with fail
      have HE : Hid ((W4.setCells (n + 1) 0 (dgC sp)).heap[n + 1]? = some (.cells (dgC sp).toArray 162 (0, 0))) := sets_whole K1d.out (by rw [dgC_len, dgC_len, HSL.out, hzl])
      have HG7 := Lib.hid (KGd.out.setsOwn (b := n + 1) (by have := HN.out; omega) (dgC sp) 0)
      refine bodyPost_ret (results_cell_row rfl _ _ (n + 1) _ _ _ _ rfl HE.out Tryz.underlying162 rfl (sizeD35 _ HSL.out)) rfl ?_
      exact ⟨by rw [hsp.out], HG7.out⟩
end Go.Proofs.YteknmbijodbfoaaGreatDoor

namespace Go.Proofs.YteknmbijodbfoaaGreatDoor
open Go.RowKit

theorem digV_at (d : V16) (k : Nat) (hk : k < 35) : (dgC (splN d.toList))[k]? = some (.int .i64 (digAt d k : Int)) := by
  rw [dgC_at _ _ (by rw [splN_len]; exact hk)]
  unfold digAt
  rw [List.getD_eq_getElem?_getD, List.getElem?_eq_getElem (by rw [splN_len]; exact hk)]; rfl
set_option maxRecDepth 100000 in
set_option maxHeartbeats 2000000 in
theorem endsOfC (leaf : Nat) (d : V16) (e : Nat → V16) (w : World) (hK : Kt w) : Calls Tryz.prog 170 #[.int .i64 (leaf : Int), .agg (bC d).toArray, .agg (chV e).toArray] w fun x w' => x = .returned (.agg (chV (endV leaf d e)).toArray) ∧ Gr w w' := by
  obtain ⟨n, hn⟩ : ∃ n, w.heap.size = n := ⟨_, rfl⟩
  have HN := Lib.hid hn
  obtain ⟨U0, hU⟩ : ∃ U0, (((w.alloc (.cells (bC d).toArray 29)).alloc (.cells (chV e).toArray 122)).alloc (.cells (chV fun _ => zAut).toArray 42)).alloc (.cells (chV fun _ => zAut).toArray 42) = U0 := ⟨_, rfl⟩
  have s1 : (w.alloc (.cells (bC d).toArray 29)).heap.size = n + 1 := by simp; omega
  have H0 : Hid (U0.heap[n]? = some (.cells (bC d).toArray 29 (0, 0))) := by
    show _ = _; rw [← hU]
    exact (((((Gr.refl _).alloc _).alloc _).alloc _).block (by simp; omega)).trans (heap_new _ _ _ (by omega))
  have H1 : Hid (U0.heap[n + 1]? = some (.cells (chV e).toArray 122 (0, 0))) := by
    show _ = _; rw [← hU]
    exact ((((Gr.refl _).alloc _).alloc _).block (by simp; omega)).trans (heap_new _ _ _ (by simp; omega))
  have H2 : Hid (U0.heap[n + 1 + 1]? = some (.cells (chV fun _ => zAut).toArray 42 (0, 0))) := by
    show _ = _; rw [← hU]
    exact (((Gr.refl _).alloc _).block (by simp; omega)).trans (heap_new _ _ _ (by simp; omega))
  have H3 : Hid (U0.heap[n + 1 + 1 + 1]? = some (.cells (chV fun _ => zAut).toArray 42 (0, 0))) := by
    show _ = _; rw [← hU]
    exact heap_new _ _ _ (by simp; omega)
  have HG : Hid (Gr w U0) := by show Gr _ _; rw [← hU]; exact ((((Gr.refl w).alloc _).alloc _).alloc _).alloc _
  have HK := Lib.hid hK
  have b1 := bC16_len d
  have b2 := bC16_one d
  have HEI : Hid (∀ k, adv leaf k (digAt d k) (15 - digAt d k) (e k) = endV leaf d e k) := fun _ => rfl
  obtain ⟨z, hz⟩ : ∃ z, padD [] = z := ⟨_, rfl⟩
  have hzr : ∀ w, Sem.run Tryz.prog (zeroValue 162) w = .ok (.agg (dgC z).toArray) w := fun w => by rw [← hz]; exact zeroD35 w
  have hzl : (dgC z).length = 35 := by rw [← hz]; rfl
  have HDA := Lib.hid (digV_at d)
  have HSC := Lib.hid (splitC d)
  have hspl : (dgC (splN d.toList)).length = 35 := by rw [dgC_len, splN_len]
  have hspo := dgC_one (splN d.toList)
  generalize splN d.toList = sp at *
  clear s1 hK hz
  replace hU := Lib.hid hU
  have q0 := hasRow_block H0.out 0 16 (by simp [bC16_len])
  have q1 := (rowAt_block H0.out 0 16 (by simp [bC16_len])).trans (rowOf_all _ _ (bC16_len d))
  have q2 := lt_of_heap H0.out
  go_enter Tryz.func170, Tryz.ntmps170
  go_wp2_with (go_at_call 83; rw [hU.out]; refine (HSC.out U0).mono ?_; rintro x w1 ⟨rfl, hg1⟩)
  have hgA := hg1.alloc (.cells (dgC sp).toArray 162)
  obtain ⟨m, hm⟩ : ∃ m, w1.heap.size = m := ⟨_, rfl⟩
  have K1 := Lib.hid ((hgA.block (lt_of_heap H1.out)).trans H1.out)
  have K2 := Lib.hid ((hgA.block (lt_of_heap H2.out)).trans H2.out)
  have K3 := Lib.hid ((hgA.block (lt_of_heap H3.out)).trans H3.out)
  have K4 : Hid ((w1.alloc (.cells (dgC sp).toArray 162)).heap[m]? = some (.cells (dgC sp).toArray 162 (0, 0))) := heap_new _ _ _ hm.symm
  have KG := Lib.hid (HG.out.trans hgA)
  have HM : Hid (n + 1 + 1 + 1 < m) := by have h3 := lt_of_heap H3.out; have := hg1.size; show _ < _; omega
  rw [hm]
  clear hgA hg1 HSC H0 H1 H2 H3 HG hU q0 q1 q2 hzr hzl hm hn
  generalize w1.alloc (.cells (dgC sp).toArray 162) = W1 at *
  generalize hE : endV leaf d e = E at *
  go_loopw [9, 12, 13, 14, 15, 16, 17, 18, 19, 20, 21, 22, 23, 24, 25, 26] (fun _ i _ _ _ _ _ _ _ _ _ _ _ _ _ _ wr => ∃ k : Nat, k ≤ 35 ∧ i = .int .i64 (k : Int) ∧ Hid (wr.heap[n + 1]? = some (.cells (chV e).toArray 122 (0, 0))) ∧ Hid (wr.heap[n + 1 + 1]? = some (.cells (chV fun _ => zAut).toArray 42 (0, 0))) ∧ Hid (wr.heap[n + 1 + 1 + 1]? = some (.cells (chV (ifLt k E)).toArray 42 (0, 0))) ∧ Hid (wr.heap[m]? = some (.cells (dgC sp).toArray 162 (0, 0))) ∧ Hid (Gr w wr)) (fun _ i _ _ _ _ _ _ _ _ _ _ _ _ _ _ _ => 35 - (intOf i).toNat)
  case atStart => exact ⟨0, by decide, rfl, K1.out, K2.out, by show Hid _; rw [ifLt_zero]; exact K3.out, K4.out, KG.out⟩
  case round =>
    obtain ⟨k, hk, rfl, h1, h2, h3, h4, hG⟩ := hrel
    clear K1 K2 K3 K4 KG
    by_cases hlt : k < 35
    · have hk1 : (k : Int) < 35 := by omega
      have hk2 : (0 : Int) ≤ (k : Int) := by omega
      have HSU := Lib.hid (ifLt_succ k E)
      have hdk := digAt_le d k
      have HX := HEI.out k
      have c4 : wr.cell? ⟨m, k, none⟩ = some (.int .i64 (digAt d k : Int)) := (cell_block h4.out k).trans (HDA.out k hlt)
      generalize digAt d k = g at *
      have q0 := hasRow_block h1.out (k * 16) 16 (by rw [chV_len]; omega)
      have q1 := (rowAt_block h1.out (k * 16) 16 (by rw [chV_len]; omega)).trans (chV_row e k hlt)
      have q2 := lt_of_heap h1.out
      have q4 := lt_of_heap h4.out
      have HAD : Hid (∀ p : GD, Calls Tryz.prog 36 #[.int .i64 (leaf : Int), .int .i64 (k : Int), .int .i64 (g : Int), .int .i64 15, .agg (bC (e k)).toArray] (gw wr p) fun e w' => e = .returned (.agg (bC (E k)).toArray) ∧ ∃ q : GD, w' = gw wr q) := fun p => by
        rw [← HX]; exact gr_call (advanceC leaf k g 15 _ hdk (by decide) _ (HK.out.gr (hG.out.trans (gr_gw wr p))))
      have b3 := bC16_len (e k)
      have b4 := bC16_one (e k)
      have b5 := bC16_len (E k)
      have b6 := bC16_one (E k)
      clear HX
      generalize E k = x at *
      generalize e k = v at *
      go_wp2_with fail
      refine wp_region_tail 10 (fun u => ∃ q : GD, u = gw wr q) (by kernel_rfl) (by kernel_rfl) (cg_drew wr) ?_
      simp only [List.take_succ_cons, List.take_zero, List.drop_succ_cons, List.drop_zero]
      repeat (go_big_quiet_step ((go_at_call 36; with_reducible exact HAD.out _)))
      refine wpQuiet_nil ?_
      rintro _ ⟨q, rfl⟩
      have HGy := Lib.hid (gr_gw wr q)
      clear HAD q0 q1 q2 q4 c4
      generalize gw wr q = w2 at *
      have HE2 := Lib.hid ((HGy.out.block (lt_of_heap h3.out)).trans h3.out)
      have y0 := hasRow_block HE2.out (k * 16) 16 (by rw [chV_len]; omega)
      have y1 := freeRow_block HE2.out (k * 16) 16
      have y2 := lt_of_heap HE2.out
      go_wp2_with fail
      go_roundw
      case rel =>
        refine ⟨k + 1, by omega, by go_num, ?_, ?_, ?_, ?_, ?_⟩
        · exact (sets_other (by omega) _ _ _).trans ((HGy.out.block (lt_of_heap h1.out)).trans h1.out)
        · exact (sets_other (by omega) _ _ _).trans ((HGy.out.block (lt_of_heap h2.out)).trans h2.out)
        · show Hid _
          rw [← HSU.out]
          exact chV_set HE2.out k hlt x
        · exact (sets_other (by have := HM.out; omega) _ _ _).trans ((HGy.out.block (lt_of_heap h4.out)).trans h4.out)
        · exact (hG.out.trans HGy.out).setsOwn (b := n + 1 + 1 + 1) (by have := HN.out; omega) (bC x) _
      case measure => simp [intOf]; omega
    · obtain rfl : k = 35 := by omega
      have hE5 := h3.out
      rw [ifLt_all] at hE5
      have z0 := hasRow_block hE5 0 560 (by rw [chV_len]; decide)
      have z1 := (rowAt_block hE5 0 560 (by rw [chV_len]; decide)).trans (rowOf_all _ _ (chV_len E))
      have z2 := lt_of_heap hE5
      have z3 := hasRow_block h2.out 0 560 (by rw [chV_len]; decide)
      have z4 := freeRow_block h2.out 0 560
      have z5 := lt_of_heap h2.out
      have b5 := chV_len E
      have b6 := chV_one E
      clear hE5
      go_wp2_with fail
      have HE : Hid ((wr.setCells (n + 1 + 1) 0 (chV E)).heap[n + 1 + 1]? = some (.cells (chV E).toArray 42 (0, 0))) := sets_whole h2.out (by rw [chV_len, chV_len])
      have HG7 := Lib.hid (hG.out.setsOwn (b := n + 1 + 1) (by have := HN.out; omega) (chV E) 0)
      refine bodyPost_ret (results_cell_row rfl _ _ (n + 1 + 1) _ _ _ _ rfl HE.out Tryz.underlying42 rfl (sizeV35 _)) rfl ?_
      exact ⟨by rw [← hE], HG7.out⟩
set_option maxRecDepth 100000 in
set_option maxHeartbeats 2000000 in
theorem otSignC (seed : Vector UInt8 32) (leaf : Nat) (hl : leaf ≤ 65535) (d : V16) (w : World) (hK : Kt w) : Calls Tryz.prog 54 #[.agg (bC seed).toArray, .int .i64 (leaf : Int), .agg (bC d).toArray] w fun x w' => x = .returned (.tuple #[.agg (chV (sigV seed leaf d)).toArray, .int .i64 0]) ∧ Gr w w' := by
  obtain ⟨n, hn⟩ : ∃ n, w.heap.size = n := ⟨_, rfl⟩
  have HN := Lib.hid hn
  obtain ⟨U0, hU⟩ : ∃ U0, (((w.alloc (.cells (bC seed).toArray 26)).alloc (.cells (bC d).toArray 29)).alloc (.cells (chV fun _ => zAut).toArray 122)).alloc (.cells (chV fun _ => zAut).toArray 122) = U0 := ⟨_, rfl⟩
  have s1 : (w.alloc (.cells (bC seed).toArray 26)).heap.size = n + 1 := by simp; omega
  have H0 : Hid (U0.heap[n]? = some (.cells (bC seed).toArray 26 (0, 0))) := by
    show _ = _; rw [← hU]
    exact (((((Gr.refl _).alloc _).alloc _).alloc _).block (by simp; omega)).trans (heap_new _ _ _ (by omega))
  have H1 : Hid (U0.heap[n + 1]? = some (.cells (bC d).toArray 29 (0, 0))) := by
    show _ = _; rw [← hU]
    exact ((((Gr.refl _).alloc _).alloc _).block (by simp; omega)).trans (heap_new _ _ _ (by simp; omega))
  have H2 : Hid (U0.heap[n + 1 + 1]? = some (.cells (chV fun _ => zAut).toArray 122 (0, 0))) := by
    show _ = _; rw [← hU]
    exact (((Gr.refl _).alloc _).block (by simp; omega)).trans (heap_new _ _ _ (by simp; omega))
  have H3 : Hid (U0.heap[n + 1 + 1 + 1]? = some (.cells (chV fun _ => zAut).toArray 122 (0, 0))) := by
    show _ = _; rw [← hU]
    exact heap_new _ _ _ (by simp; omega)
  have HG : Hid (Gr w U0) := by show Gr _ _; rw [← hU]; exact ((((Gr.refl w).alloc _).alloc _).alloc _).alloc _
  have HK := Lib.hid hK
  have b1 := bC16_len d
  have b2 := bC16_one d
  have HEI : Hid (∀ k, adv leaf k 0 (digAt d k) (first seed leaf k) = sigV seed leaf d k) := fun _ => rfl
  obtain ⟨z, hz⟩ : ∃ z, padD [] = z := ⟨_, rfl⟩
  have hzr : ∀ w, Sem.run Tryz.prog (zeroValue 162) w = .ok (.agg (dgC z).toArray) w := fun w => by rw [← hz]; exact zeroD35 w
  have hzl : (dgC z).length = 35 := by rw [← hz]; rfl
  have HDA := Lib.hid (digV_at d)
  have HSC := Lib.hid (splitC d)
  have HIL := Lib.hid (isLeafC leaf hl)
  have hspl : (dgC (splN d.toList)).length = 35 := by rw [dgC_len, splN_len]
  have hspo := dgC_one (splN d.toList)
  generalize splN d.toList = sp at *
  clear s1 hK hz
  replace hU := Lib.hid hU
  have q0 := hasRow_block H1.out 0 16 (by simp [bC16_len])
  have q1 := (rowAt_block H1.out 0 16 (by simp [bC16_len])).trans (rowOf_all _ _ (bC16_len d))
  have q2 := lt_of_heap H1.out
  go_enter Tryz.func54, Tryz.ntmps54
  go_wp2_with (first | (go_at_call 35; refine (HIL.out _).mono ?_; rintro x w' ⟨rfl, rfl⟩) | (go_at_call 83; rw [hU.out]; refine (HSC.out U0).mono ?_; rintro x w1 ⟨rfl, hg1⟩))
  have hgA := hg1.alloc (.cells (dgC sp).toArray 162)
  obtain ⟨m, hm⟩ : ∃ m, w1.heap.size = m := ⟨_, rfl⟩
  have K0 := Lib.hid ((hgA.block (lt_of_heap H0.out)).trans H0.out)
  have K2 := Lib.hid ((hgA.block (lt_of_heap H2.out)).trans H2.out)
  have K3 := Lib.hid ((hgA.block (lt_of_heap H3.out)).trans H3.out)
  have K4 : Hid ((w1.alloc (.cells (dgC sp).toArray 162)).heap[m]? = some (.cells (dgC sp).toArray 162 (0, 0))) := heap_new _ _ _ hm.symm
  have KG := Lib.hid (HG.out.trans hgA)
  have HM : Hid (n + 1 + 1 + 1 < m) := by have h3 := lt_of_heap H3.out; have := hg1.size; show _ < _; omega
  rw [hm]
  clear hgA hg1 HSC H0 H1 H2 H3 HG hU q0 q1 q2 hzr hzl hm hn
  generalize w1.alloc (.cells (dgC sp).toArray 162) = W1 at *
  generalize hE : sigV seed leaf d = E at *
  go_loopw [10, 17, 18, 19, 20, 21, 22, 23, 24, 25, 26, 27, 28, 29, 30, 31, 32] (fun _ i _ _ _ _ _ _ _ _ _ _ _ _ _ _ _ wr => ∃ k : Nat, k ≤ 35 ∧ i = .int .i64 (k : Int) ∧ Hid (wr.heap[n]? = some (.cells (bC seed).toArray 26 (0, 0))) ∧ Hid (wr.heap[n + 1 + 1]? = some (.cells (chV fun _ => zAut).toArray 122 (0, 0))) ∧ Hid (wr.heap[n + 1 + 1 + 1]? = some (.cells (chV (ifLt k E)).toArray 122 (0, 0))) ∧ Hid (wr.heap[m]? = some (.cells (dgC sp).toArray 162 (0, 0))) ∧ Hid (Gr w wr)) (fun _ i _ _ _ _ _ _ _ _ _ _ _ _ _ _ _ _ => 35 - (intOf i).toNat)
  case atStart => exact ⟨0, by decide, rfl, K0.out, K2.out, by show Hid _; rw [ifLt_zero]; exact K3.out, K4.out, KG.out⟩
  case round =>
    obtain ⟨k, hk, rfl, h0, h2, h3, h4, hG⟩ := hrel
    clear K0 K2 K3 K4 KG
    by_cases hlt : k < 35
    · have hk1 : (k : Int) < 35 := by omega
      have hk2 : (0 : Int) ≤ (k : Int) := by omega
      have HSU := Lib.hid (ifLt_succ k E)
      have hdk := digAt_le d k
      have HX := HEI.out k
      have c4 : wr.cell? ⟨m, k, none⟩ = some (.int .i64 (digAt d k : Int)) := (cell_block h4.out k).trans (HDA.out k hlt)
      generalize digAt d k = g at *
      have q0 := hasRow_block h0.out 0 32 (by simp [bC32_len])
      have q1 := (rowAt_block h0.out 0 32 (by simp [bC32_len])).trans (rowOf_all _ _ (bC32_len seed))
      have q2 := lt_of_heap h0.out
      have q4 := lt_of_heap h4.out
      have HFI : Hid (∀ p : GD, Calls Tryz.prog 37 #[.agg (bC seed).toArray, .int .i64 (leaf : Int), .int .i64 (k : Int)] (gw wr p) fun e w' => e = .returned (.agg (bC (first seed leaf k)).toArray) ∧ ∃ q : GD, w' = gw wr q) := fun p => gr_call (firstC seed leaf k _ (HK.out.gr (hG.out.trans (gr_gw wr p))))
      have HAD : Hid (∀ p : GD, Calls Tryz.prog 36 #[.int .i64 (leaf : Int), .int .i64 (k : Int), .int .i64 0, .int .i64 (g : Int), .agg (bC (first seed leaf k)).toArray] (gw wr p) fun e w' => e = .returned (.agg (bC (E k)).toArray) ∧ ∃ q : GD, w' = gw wr q) := fun p => by
        rw [← HX]; exact gr_call (advanceC leaf k 0 g _ (Nat.zero_le _) hdk _ (HK.out.gr (hG.out.trans (gr_gw wr p))))
      have b5 := bC16_len (E k)
      have b6 := bC16_one (E k)
      have b7 := bC32_len seed
      have b8 := bC32_one seed
      clear HX
      generalize E k = x at *
      generalize first seed leaf k = v at *
      go_wp2_with fail
      refine wp_region_tail 11 (fun u => ∃ q : GD, u = gw wr q) (by kernel_rfl) (by kernel_rfl) (cg_drew wr) ?_
      simp only [List.take_succ_cons, List.take_zero, List.drop_succ_cons, List.drop_zero]
      repeat (go_big_quiet_step (first | (go_at_call 37; with_reducible exact HFI.out _) | (go_at_call 36; with_reducible exact HAD.out _)))
      refine wpQuiet_nil ?_
      rintro _ ⟨q, rfl⟩
      have HGy := Lib.hid (gr_gw wr q)
      clear HAD HFI q0 q1 q2 q4 c4
      generalize gw wr q = w2 at *
      have HE2 := Lib.hid ((HGy.out.block (lt_of_heap h3.out)).trans h3.out)
      have y0 := hasRow_block HE2.out (k * 16) 16 (by rw [chV_len]; omega)
      have y1 := freeRow_block HE2.out (k * 16) 16
      have y2 := lt_of_heap HE2.out
      go_wp2_with fail
      go_roundw
      case rel =>
        refine ⟨k + 1, by omega, by go_num, ?_, ?_, ?_, ?_, ?_⟩
        · exact (sets_other (by omega) _ _ _).trans ((HGy.out.block (lt_of_heap h0.out)).trans h0.out)
        · exact (sets_other (by omega) _ _ _).trans ((HGy.out.block (lt_of_heap h2.out)).trans h2.out)
        · show Hid _
          rw [← HSU.out]
          exact chV_set HE2.out k hlt x
        · exact (sets_other (by have := HM.out; omega) _ _ _).trans ((HGy.out.block (lt_of_heap h4.out)).trans h4.out)
        · exact (hG.out.trans HGy.out).setsOwn (b := n + 1 + 1 + 1) (by have := HN.out; omega) (bC x) _
      case measure => simp [intOf]; omega
    · obtain rfl : k = 35 := by omega
      have hE5 := h3.out
      rw [ifLt_all] at hE5
      have z0 := hasRow_block hE5 0 560 (by rw [chV_len]; decide)
      have z1 := (rowAt_block hE5 0 560 (by rw [chV_len]; decide)).trans (rowOf_all _ _ (chV_len E))
      have z2 := lt_of_heap hE5
      have z3 := hasRow_block h2.out 0 560 (by rw [chV_len]; decide)
      have z4 := freeRow_block h2.out 0 560
      have z5 := lt_of_heap h2.out
      have b5 := chV_len E
      have b6 := chV_one E
      clear hE5
      go_wp2_with fail
      have HE : Hid ((wr.setCells (n + 1 + 1) 0 (chV E)).heap[n + 1 + 1]? = some (.cells (chV E).toArray 122 (0, 0))) := sets_whole h2.out (by rw [chV_len, chV_len])
      have HG7 := Lib.hid (hG.out.setsOwn (b := n + 1 + 1) (by have := HN.out; omega) (chV E) 0)
      refine bodyPost_ret (results_cellT rfl _ _ (n + 1 + 1) _ _ _ _ rfl HE.out Tryz.underlying122 rfl (sizeSg _)) rfl ?_
      exact ⟨by rw [← hE]; rfl, HG7.out⟩
set_option maxRecDepth 100000 in
set_option maxHeartbeats 2000000 in
theorem recoverC (leaf : Nat) (hl : leaf ≤ 65535) (d : V16) (e : Nat → V16) (w : World) (hK : Kt w) : Calls Tryz.prog 134 #[.int .i64 (leaf : Int), .agg (bC d).toArray, .agg (chV e).toArray] w fun x w' => x = .returned (.tuple #[.agg (bC (recV leaf d e)).toArray, .int .i64 0]) ∧ Gr w w' := by
  obtain ⟨n, hn⟩ : ∃ n, w.heap.size = n := ⟨_, rfl⟩
  have HN := Lib.hid hn
  obtain ⟨U0, hU⟩ : ∃ U0, ((w.alloc (.cells (bC d).toArray 29)).alloc (.cells (chV e).toArray 122)).alloc (.cells (bC zAut).toArray 29) = U0 := ⟨_, rfl⟩
  have H0 : Hid (U0.heap[n]? = some (.cells (bC d).toArray 29 (0, 0))) := by
    show _ = _; rw [← hU]
    exact ((((Gr.refl _).alloc _).alloc _).block (by simp; omega)).trans (heap_new _ _ _ (by omega))
  have H1 : Hid (U0.heap[n + 1]? = some (.cells (chV e).toArray 122 (0, 0))) := by
    show _ = _; rw [← hU]
    exact (((Gr.refl _).alloc _).block (by simp; omega)).trans (heap_new _ _ _ (by simp; omega))
  have H2 : Hid (U0.heap[n + 1 + 1]? = some (.cells (bC zAut).toArray 29 (0, 0))) := by
    show _ = _; rw [← hU]
    exact heap_new _ _ _ (by simp; omega)
  have HG : Hid (Gr w U0) := by show Gr _ _; rw [← hU]; exact (((Gr.refl w).alloc _).alloc _).alloc _
  have HIL := Lib.hid (isLeafC leaf hl)
  have HEN := Lib.hid (endsOfC leaf d e U0 (hK.gr HG.out))
  have HCP : Hid (∀ W, Gr U0 W → Calls Tryz.prog 38 #[.int .i64 (leaf : Int), .agg (chV (endV leaf d e)).toArray] W fun x w' => x = .returned (.tuple #[.agg (bC (recV leaf d e)).toArray, .int .i64 0]) ∧ Gr W w') := fun W hW => compressC leaf hl _ W (hK.gr (HG.out.trans hW))
  obtain ⟨y, hy⟩ : ∃ y, recV leaf d e = y := ⟨_, rfl⟩
  rw [hy] at HCP ⊢
  generalize endV leaf d e = E at *
  have b1 := bC16_len d
  have b2 := bC16_one d
  have b3 := chV_len e
  have b4 := chV_one e
  have b5 := bC16_len y
  have b6 := bC16_one y
  have b7 := chV_len E
  have b8 := chV_one E
  clear hy hK
  replace hU := Lib.hid hU
  have q0 := hasRow_block H0.out 0 16 (by simp [bC16_len])
  have q1 := (rowAt_block H0.out 0 16 (by simp [bC16_len])).trans (rowOf_all _ _ (bC16_len d))
  have q2 := lt_of_heap H0.out
  have q3 := hasRow_block H1.out 0 560 (by rw [chV_len]; decide)
  have q4 := (rowAt_block H1.out 0 560 (by rw [chV_len]; decide)).trans (rowOf_all _ _ (chV_len e))
  have q5 := lt_of_heap H1.out
  go_enter Tryz.func134, Tryz.ntmps134
  go_wp2_with (first
    | (go_at_call 35; refine (HIL.out _).mono ?_; rintro x w' ⟨rfl, rfl⟩; rw [hU.out])
    | (go_at_call 170; refine HEN.out.mono ?_; rintro x w1 ⟨rfl, hg1⟩)
    | (go_at_call 38; refine (HCP.out w1 hg1).mono ?_; rintro x w2 ⟨rfl, hg2⟩; have HG2 := Lib.hid ((HG.out.trans hg1).trans hg2); have K2 := Lib.hid (((hg1.trans hg2).block (lt_of_heap H2.out)).trans H2.out); have z0 := hasRow_block K2.out 0 16 (by simp [bC16_len]); have z1 := freeRow_block K2.out 0 16; have z2 := lt_of_heap K2.out))
  have HE : Hid ((w2.setCells (n + 1 + 1) 0 (bC y)).heap[n + 1 + 1]? = some (.cells (bC y).toArray 29 (0, 0))) := sets_whole K2.out (by simp [bC16_len])
  have HG7 := Lib.hid (HG2.out.setsOwn (b := n + 1 + 1) (by have := HN.out; omega) (bC y) 0)
  refine bodyPost_ret (results_cellT rfl _ _ (n + 1 + 1) _ _ _ _ rfl HE.out Tryz.underlying29 rfl (sizeV16 _)) rfl ?_
  exact ⟨rfl, HG7.out⟩
end Go.Proofs.YteknmbijodbfoaaGreatDoor

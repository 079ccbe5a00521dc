/- base64.regroup: groups of bits. base64.regroup: add, groups of 8 bits into groups of 6. base64.regroup: add, groups of 6 bits into groups of 8. base64.encode: what takes the groups. base64.encode. signer.PublicText. small; Own: the reference's command as the program's, its authors copied. -/
import Derived.Test.YteknmbijodbfoaaGreatDoorBD
import Derived.Test.YteknmbijodbfoaaGreatDoorBB
import Derived.Test.YteknmbijodbfoaaGreatDoorBC
import Derived.Test.YteknmbijodbfoaaGreatDoorBA
namespace Go.Proofs.YteknmbijodbfoaaGreatDoor
open Go.RowKit

def ptr (b : Nat) : Value := .pointer (some ⟨b, 0, none⟩)
def oneI (n : Int) : Obj := .cells #[.int .i64 n] 3 (0, 0)
def fnAdd (X : Nat) : Value := .func (.func 186) #[] #[ptr (X + 3), ptr X, ptr (X + 4), ptr (X + 1), ptr (X + 2)]
def fnLeft (X : Nat) : Value := .func (.func 187) #[] #[ptr (X + 3), ptr (X + 4)]
/-- The five captured variables. -/
structure RgAt (w : World) (X : Nat) (fr ti : Int) (F : Value) (bits count : Int) : Prop where
  fr : w.heap[X]? = some (oneI fr)
  ti : w.heap[X + 1]? = some (oneI ti)
  pass : w.heap[X + 2]? = some (.cells #[F] 186 (0, 0))
  bits : w.heap[X + 3]? = some (oneI bits)
  count : w.heap[X + 4]? = some (oneI count)
set_option maxRecDepth 100000 in
set_option maxHeartbeats 2000000 in
theorem regroupC (fr ti : Int) (f : Fn) (cs ds : Array Value) (w : World) : Calls Tryz.prog 164 #[.int .i64 fr, .int .i64 ti, .func f cs ds] w fun e w' => e = .returned (.tuple #[fnAdd w.heap.size, fnLeft w.heap.size]) ∧ RgAt w' w.heap.size fr ti (.func f cs ds) 0 0 ∧ Gr w w' ∧ w'.heap.size = w.heap.size + 5 := by
  go_enter Tryz.func164, Tryz.ntmps164
  go_wp2_with fail
  go_ret2
  refine ⟨rfl, ⟨?_, ?_, ?_, ?_, ?_⟩, ?_, by simp⟩
  · exact ((((((Gr.refl _).alloc _).alloc _).alloc _).alloc _).block (by simp <;> omega)).trans (heap_new _ _ _ (by simp))
  · exact (((((Gr.refl _).alloc _).alloc _).alloc _).block (by simp <;> omega)).trans (heap_new _ _ _ (by simp))
  · exact ((((Gr.refl _).alloc _).alloc _).block (by simp <;> omega)).trans (heap_new _ _ _ (by simp))
  · exact (((Gr.refl _).alloc _).block (by simp <;> omega)).trans (heap_new _ _ _ (by simp))
  · exact ((Gr.refl _).block (by simp <;> omega)).trans (heap_new _ _ _ (by simp))
  · exact (((((Gr.refl w).alloc _).alloc _).alloc _).alloc _).alloc _
theorem RgAt.gr {w w' : World} {X : Nat} {fr ti : Int} {F : Value} {bits count : Int} (h : RgAt w X fr ti F bits count) (hg : Gr w w') : RgAt w' X fr ti F bits count :=
  ⟨(hg.block (Array.getElem?_eq_some_iff.1 h.fr).1).trans h.fr, (hg.block (Array.getElem?_eq_some_iff.1 h.ti).1).trans h.ti, (hg.block (Array.getElem?_eq_some_iff.1 h.pass).1).trans h.pass, (hg.block (Array.getElem?_eq_some_iff.1 h.bits).1).trans h.bits, (hg.block (Array.getElem?_eq_some_iff.1 h.count).1).trans h.count⟩
theorem oneI_facts {w : World} {b : Nat} {n : Int} (h : w.heap[b]? = some (oneI n)) : w.cell? ⟨b, 0, none⟩ = some (.int .i64 n) ∧ w.frozen? ⟨b, 0, none⟩ = false ∧ b < w.heap.size :=
  ⟨cell_block (cs := [.int .i64 n]) h 0, by unfold oneI at h; simp [World.frozen?, h], (Array.getElem?_eq_some_iff.1 h).1⟩
theorem oneI_set {w : World} {b : Nat} {n : Int} (h : w.heap[b]? = some (oneI n)) (m : Int) : (w.setCell ⟨b, 0, none⟩ (.int .i64 m)).heap[b]? = some (oneI m) := heap_setCell_same w b 0 _ _ _ h
theorem RgAt.setBits {w : World} {X : Nat} {fr ti : Int} {F : Value} {bits count : Int} (h : RgAt w X fr ti F bits count) (m : Int) : RgAt (w.setCell ⟨X + 3, 0, none⟩ (.int .i64 m)) X fr ti F m count :=
  ⟨(heap_setCell_other w ⟨X + 3, 0, none⟩ X _ (by show X ≠ X + 3; omega)).trans h.fr, (heap_setCell_other w ⟨X + 3, 0, none⟩ (X + 1) _ (by show X + 1 ≠ X + 3; omega)).trans h.ti, (heap_setCell_other w ⟨X + 3, 0, none⟩ (X + 2) _ (by show X + 2 ≠ X + 3; omega)).trans h.pass, oneI_set h.bits m, (heap_setCell_other w ⟨X + 3, 0, none⟩ (X + 4) _ (by show X + 4 ≠ X + 3; omega)).trans h.count⟩
theorem RgAt.setCount {w : World} {X : Nat} {fr ti : Int} {F : Value} {bits count : Int} (h : RgAt w X fr ti F bits count) (m : Int) : RgAt (w.setCell ⟨X + 4, 0, none⟩ (.int .i64 m)) X fr ti F bits m :=
  ⟨(heap_setCell_other w ⟨X + 4, 0, none⟩ X _ (by show X ≠ X + 4; omega)).trans h.fr, (heap_setCell_other w ⟨X + 4, 0, none⟩ (X + 1) _ (by show X + 1 ≠ X + 4; omega)).trans h.ti, (heap_setCell_other w ⟨X + 4, 0, none⟩ (X + 2) _ (by show X + 2 ≠ X + 4; omega)).trans h.pass, (heap_setCell_other w ⟨X + 4, 0, none⟩ (X + 3) _ (by show X + 3 ≠ X + 4; omega)).trans h.bits, oneI_set h.count m⟩
set_option maxRecDepth 100000 in
set_option maxHeartbeats 2000000 in
theorem leftC (X : Nat) (fr ti : Int) (F : Value) (bits count : Int) (w : World) (h : RgAt w X fr ti F bits count) : Calls Tryz.prog 187 #[ptr (X + 3), ptr (X + 4)] w fun e w' => e = .returned (.tuple #[.int .i64 bits, .int .i64 count]) ∧ Gr w w' := by
  obtain ⟨c1, _, z1⟩ := oneI_facts h.bits
  obtain ⟨c2, _, z2⟩ := oneI_facts h.count
  clear h
  unfold ptr
  go_enter Tryz.func187, Tryz.ntmps187
  go_wp2_with fail
  go_quiet (fail)
  go_wp2_with fail
  go_ret2
  exact ⟨rfl, (Gr.refl w).drewN _⟩
/-- What the groups are passed to: the function id, which captures one variable, at T; S tells of the groups that it has taken; the world w0 is the one ahead of it all. -/
structure Pass (ti : Nat) (X : Nat) (w0 : World) (id : FuncId) (T : Nat) (S : World → List Nat → Prop) : Prop where
  eg : ∀ args w, (callFunc id args).run Tryz.prog w = .ok (.enter id args) w
  set : ∀ W l k u, k = X + 3 ∨ k = X + 4 → S W l → S (W.setCell ⟨k, 0, none⟩ u) l
  gr : ∀ W W' l, S W l → Gr W W' → S W' l
  call : ∀ W l (g : Nat) fr b c, l.length ≤ 999000 → g < 2 ^ ti → S W l → RgAt W X fr ti (.func (.func id) #[] #[ptr T]) b c → Gr w0 W → Calls Tryz.prog id #[.int .i64 (g : Int), ptr T] W fun e W' => e = .returned (.tuple #[]) ∧ S W' (l ++ [g]) ∧ RgAt W' X fr ti (.func (.func id) #[] #[ptr T]) b c ∧ Gr w0 W'
theorem bits_and_nat (x y : Nat) (hx : x < 4294967296) (hy : y < 4294967296) : bits .and .i64 (x : Int) (y : Int) = ((x &&& y : Nat) : Int) := by
  have h1 : x &&& y ≤ x := Nat.and_le_left
  simp only [bits, BitVec.ofInt_natCast, BitVec.toNat_and, BitVec.toNat_ofNat]
  rw [show (2 : Nat) ^ IntKind.i64.bits = 18446744073709551616 by decide, Nat.mod_eq_of_lt (by omega), Nat.mod_eq_of_lt (by omega), IntKind.wrap_i64]
  omega
/-- The first k bits of a list, and the others, out of its value. -/
theorem val_split (cur : List Bool) (k c : Nat) (h : cur.length = c + k) : valB cur / 2 ^ c = valB (cur.take k) ∧ valB cur % 2 ^ c = valB (cur.drop k) := by
  have hd : (cur.drop k).length = c := by rw [List.length_drop]; omega
  have hv : valB cur = valB (cur.take k) * 2 ^ c + valB (cur.drop k) := by
    have := valB_app (cur.take k) (cur.drop k)
    rwa [List.take_append_drop, hd] at this
  have hlt : valB (cur.drop k) < 2 ^ c := by have := valB_lt (cur.drop k); rwa [hd] at this
  have hp : 0 < 2 ^ c := Nat.two_pow_pos c
  rw [hv]
  constructor
  · rw [Nat.mul_comm, Nat.mul_add_div hp, Nat.div_eq_of_lt hlt, Nat.add_zero]
  · rw [Nat.mul_comm, Nat.mul_add_mod, Nat.mod_eq_of_lt hlt]
def AtEnd (A : Act) (W : World) (e : Exit) (a : Act) (w : World) : Prop := match e with | .normal => a = A ∧ w = W | _ => False
theorem wp_to {P : Program} {c : Code} {Q' : Exit → Act → World → Prop} {a : Act} {w : World} (A : Act) (W : World) (h : c.wp P (AtEnd A W) a w) (hq : Q' .normal A W) : c.wp P Q' a w :=
  Code.wp_mono (fun e a w h => by cases e <;> first | exact h.elim | (obtain ⟨h2, h3⟩ := h; subst h2; subst h3; exact hq)) h
theorem bodyPost_endU {P : Program} {fn : Func} {Q : Ending → World → Prop} {t : Array Value} {w : World} {d : List Deferred} (hr : fn.results = #[]) (hd : d = []) (hR : Q (.returned (.tuple #[])) w) : bodyPost P fn Q .normal ⟨t, d⟩ w :=
  bodyPost_end (results_none hr _ _ _) hd hR
theorem or_fin86 : ∀ (i : Fin 64) (j : Fin 256), bits .or .i64 ((i.val : Int) * 256) (j.val : Int) = ((i.val * 256 + j.val : Nat) : Int) := by decide +kernel
theorem or_fin68 : ∀ (i : Fin 256) (j : Fin 64), bits .or .i64 ((i.val : Int) * 64) (j.val : Int) = ((i.val * 64 + j.val : Nat) : Int) := by decide +kernel
end Go.Proofs.YteknmbijodbfoaaGreatDoor

namespace Go.Proofs.YteknmbijodbfoaaGreatDoor
open Go.RowKit

/-- What add leaves. -/
def AddPost86 (X : Nat) (id : FuncId) (T : Nat) (S : World → List Nat → Prop) (w0 : World) (left : List Bool) (g : Nat) (l : List Nat) (e : Ending) (w' : World) : Prop :=
  e = .returned (.tuple #[]) ∧ RgAt w' X 8 6 (.func (.func id) #[] #[ptr T]) (valB (grp 6 (left ++ bitsK 8 g)).2 : Nat) ((grp 6 (left ++ bitsK 8 g)).2.length : Nat) ∧ S w' (l ++ (grp 6 (left ++ bitsK 8 g)).1) ∧ Gr w0 w'
set_option maxRecDepth 100000 in
set_option maxHeartbeats 4000000 in
theorem add86 (X : Nat) (id : FuncId) (T : Nat) (S : World → List Nat → Prop) (w0 : World) (hp : Pass 6 X w0 id T S) (hx : w0.heap.size ≤ X) (left : List Bool) (hl : left.length < 6) (g : Nat) (hg : g < 256) (l : List Nat) (hll : l.length ≤ 998000) (w : World)
    (hR : RgAt w X 8 6 (.func (.func id) #[] #[ptr T]) (valB left : Nat) (left.length : Nat)) (hS : S w l) (hG : Gr w0 w) :
    Calls Tryz.prog 186 #[.int .i64 (g : Int), ptr (X + 3), ptr X, ptr (X + 4), ptr (X + 1), ptr (X + 2)] w (AddPost86 X id T S w0 left g l) := by
  have hv1 : valB (left ++ bitsK 8 g) = valB left * 256 + g := by rw [valB_app, valB_bitsK 8 g hg, bitsK_len]
  have hlen1 : (left ++ bitsK 8 g).length = left.length + 8 := by rw [List.length_append, bitsK_len]
  have hbl : valB left < 64 := Nat.lt_of_lt_of_le (valB_lt left) (Nat.pow_le_pow_right (by decide) (show left.length ≤ 6 by omega))
  have hor : bits .or .i64 ((valB left : Int) * 256) (g : Int) = ((valB left * 256 + g : Nat) : Int) := or_fin86 ⟨valB left, hbl⟩ ⟨g, hg⟩
  have hwr : IntKind.i64.wrap ((valB left : Int) * 256) = (valB left : Int) * 256 := by rw [IntKind.wrap_i64]; omega
  have HR := Lib.hid hR; have HS := Lib.hid hS; have HG := Lib.hid hG; have HP := Lib.hid hp
  have HV := Lib.hid hv1; have HLN := Lib.hid hlen1
  obtain ⟨a0, _, b0⟩ := oneI_facts hR.fr
  obtain ⟨a1, _, b1⟩ := oneI_facts hR.ti
  obtain ⟨a3, f3, b3⟩ := oneI_facts hR.bits
  obtain ⟨a4, f4, b4⟩ := oneI_facts hR.count
  generalize valB left = B at *
  generalize left.length = C at *
  clear hv1 hlen1 hR hS hG hp
  unfold ptr
  go_enter Tryz.func186, Tryz.ntmps186
  go_wp2_with fail
  have hw2 : IntKind.i64.wrap ((C : Int) + 8) = (C : Int) + 8 := by rw [IntKind.wrap_i64]; omega
  apply wp_to (A := { tmps := #[.int .i64 (g : Int), .pointer (some ⟨X + 3, 0, none⟩), .pointer (some ⟨X, 0, none⟩), .pointer (some ⟨X + 4, 0, none⟩), .pointer (some ⟨X + 1, 0, none⟩), .pointer (some ⟨X + 2, 0, none⟩), undef, .int .i64 (B : Int), .int .i64 8, .int .i64 ((B : Int) * 256), .int .i64 (g : Int), .int .i64 ((B : Int) * 256 + (g : Int)), .int .i64 (C : Int), .int .i64 8, .int .i64 ((C : Int) + 8), undef, undef, undef, undef, undef, undef, undef, undef, undef, undef, undef, undef, undef, undef, undef, undef], defers := [] }) (W := ((w.setCell ⟨X + 3, 0, none⟩ (.int .i64 ((B : Int) * 256 + (g : Int)))).setCell ⟨X + 4, 0, none⟩ (.int .i64 ((C : Int) + 8))).drew)
  case h =>
    go_region_law (fail)
    all_goals exact ⟨rfl, rfl⟩
  have R1 := ((HR.out.setBits ((B : Int) * 256 + (g : Int))).setCount ((C : Int) + 8)).gr (Gr.refl _).drew
  have S1 := Lib.hid (HP.out.gr _ _ _ (HP.out.set _ _ (X + 4) (.int .i64 ((C : Int) + 8)) (.inr rfl) (HP.out.set _ _ (X + 3) (.int .i64 ((B : Int) * 256 + (g : Int))) (.inl rfl) HS.out)) (Gr.refl _).drew)
  have G1 := Lib.hid (((HG.out.setOwn (b := X + 3) (o := 0) (by omega) (.int .i64 ((B : Int) * 256 + (g : Int)))).setOwn (b := X + 4) (o := 0) (by omega) (.int .i64 ((C : Int) + 8))).drew)
  generalize ((w.setCell ⟨X + 3, 0, none⟩ (.int .i64 ((B : Int) * 256 + (g : Int)))).setCell ⟨X + 4, 0, none⟩ (.int .i64 ((C : Int) + 8))).drew = W1 at *
  have eB : (B : Int) * 256 + (g : Int) = ((valB (left ++ bitsK 8 g) : Nat) : Int) := by rw [HV.out]; omega
  have eC : (C : Int) + 8 = (((left ++ bitsK 8 g).length : Nat) : Int) := by rw [HLN.out]; omega
  have hl13 : (left ++ bitsK 8 g).length ≤ 13 := by rw [HLN.out]; omega
  rw [eB, eC] at R1
  have HR1 := Lib.hid R1
  obtain ⟨cur0, hcur0⟩ : ∃ c, left ++ bitsK 8 g = c := ⟨_, rfl⟩
  rw [hcur0] at HR1 hl13
  have HCUR := Lib.hid hcur0
  clear R1 eB eC hor hwr a0 b0 a1 b1 a3 f3 b3 a4 f4 b4 HR HS HG hbl hcur0 HV HLN
  go_wp2_with fail
  go_loopw [15, 16, 17, 18, 19, 20, 21, 22, 23, 24, 25, 26, 27, 28, 29, 30] (fun _ _ _ _ _ _ _ _ _ _ _ _ _ _ _ _ wr => ∃ cur pre, cur.length + pre.length ≤ 13 ∧ Hid (grp 6 cur0 = (pre ++ (grp 6 cur).1, (grp 6 cur).2)) ∧ Hid (RgAt wr X 8 6 (.func (.func id) #[] #[ptr T]) (valB cur : Nat) (cur.length : Nat)) ∧ Hid (S wr (l ++ pre)) ∧ Hid (Gr w0 wr)) (fun _ _ _ _ _ _ _ _ _ _ _ _ _ _ _ _ wr => (intOf ((wr.cell? ⟨X + 4, 0, none⟩).getD undef)).toNat)
  case atStart => exact ⟨cur0, [], by simpa using hl13, by show _ = _; simp, HR1.out, by show _; rw [List.append_nil]; exact S1.out, G1.out⟩
  case round =>
    obtain ⟨cur, pre, hlp, hg1, hR, hS, hG⟩ := hrel
    have hlen : cur.length ≤ 13 := by omega
    have HLP := Lib.hid hlp
    clear hlp
    obtain ⟨a0, -, b0⟩ := oneI_facts hR.out.fr
    obtain ⟨a1, -, b1⟩ := oneI_facts hR.out.ti
    obtain ⟨a3, f3, b3⟩ := oneI_facts hR.out.bits
    obtain ⟨a4, f4, b4⟩ := oneI_facts hR.out.count
    by_cases hlt : cur.length < 6
    · have e := grp_short hlt
      have hlt1 : ¬ (6 : Int) ≤ (cur.length : Int) := by omega
      have HE := Lib.hid e
      clear e
      go_wp2_with fail
      show bodyPost Tryz.prog Tryz.f186 (AddPost86 X id T S w0 left g l) .normal _ _
      refine bodyPost_endU (fn := Tryz.f186) rfl rfl ?_
      refine ⟨rfl, ?_, ?_, hG.out⟩
      · rw [HCUR.out, hg1.out, HE.out]; exact hR.out
      · rw [HCUR.out, hg1.out, HE.out]; show S wr (l ++ (pre ++ [])); rw [List.append_nil]; exact hS.out
    · obtain ⟨c, hc⟩ : ∃ c, cur.length = c + 6 := ⟨cur.length - 6, by omega⟩
      obtain ⟨hs1, hs2⟩ := val_split cur 6 c hc
      have hc7 : c ≤ 13 - 6 := by omega
      have hstep := grp_step (k := 6) (by decide) (l := cur) (by omega)
      have HST : Hid (grp 6 cur0 = ((pre ++ [valB (cur.take 6)]) ++ (grp 6 (cur.drop 6)).1, (grp 6 (cur.drop 6)).2)) := by
        show _ = _; rw [hg1.out, hstep]; simp
      have hdl : (cur.drop 6).length = c := by rw [List.length_drop]; omega
      have HDL := Lib.hid hdl
      have hq : valB (cur.take 6) < 2 ^ 6 := by have := valB_lt (cur.take 6); rwa [List.length_take, Nat.min_eq_left (by omega)] at this
      have hb13 : valB cur < 8192 := Nat.lt_of_lt_of_le (valB_lt cur) (Nat.le_trans (Nat.pow_le_pow_right (by decide) hlen) (by decide))
      have hc2 : 2 ^ c ≤ 128 := Nat.le_trans (Nat.pow_le_pow_right (by decide) (show c ≤ 7 by omega)) (by decide)
      have hc1 : 1 ≤ 2 ^ c := Nat.two_pow_pos c
      have hand0 : bits .and .i64 ((valB cur : Nat) : Int) ((2 ^ c - 1 : Nat) : Int) = ((valB (cur.drop 6) : Nat) : Int) := by
        rw [bits_and_nat _ _ (by omega) (by omega), Nat.and_two_pow_sub_one_eq_mod, hs2]
      rw [hc] at a4
      have HA4 := Lib.hid a4
      have hgc : (6 : Int) ≤ (c : Int) + 6 := by omega
      have HC := Lib.hid hc
      generalize hQ : valB (cur.take 6) = q at *
      generalize hD : cur.drop 6 = rest at *
      have hR2 := hR.out.setCount (c : Int)
      have hS2 := Lib.hid (HP.out.set _ _ (X + 4) (.int .i64 (c : Int)) (.inr rfl) hS.out)
      have hG2 := Lib.hid (hG.out.setOwn (b := X + 4) (o := 0) (by omega) (.int .i64 (c : Int)))
      clear hstep hdl hs2 hg1 hS hG hQ hD hR hlt hc
      generalize valB cur = b at *
      go_wp2_with fail
      generalize wr.setCell ⟨X + 4, 0, none⟩ (.int .i64 (c : Int)) = W2 at *
      clear a0 a1 a3 a4 f3 f4 b0 b1 b3 b4
      obtain ⟨a3, f3, b3⟩ := oneI_facts hR2.bits
      obtain ⟨a4, f4, b4⟩ := oneI_facts hR2.count
      have a2 : W2.cell? ⟨X + 2, 0, none⟩ = some (.func (.func id) #[] #[ptr T]) := cell_block (cs := [.func (.func id) #[] #[ptr T]]) hR2.pass 0
      have b2 := (Array.getElem?_eq_some_iff.1 hR2.pass).1
      have hdiv : (b : Int) / 2 ^ c = (q : Int) := by rw [← hs1]; simp
      have hR3 := Lib.hid hR2
      clear hR2
      refine wp_region_tail 4 (fun u => ∃ p : LD, u = lw W2 p) (by kernel_rfl) (by kernel_rfl) (cl_drew W2) ?_
      simp only [List.take_succ_cons, List.take_zero, List.drop_succ_cons, List.drop_zero]
      repeat (go_big_quiet_step (fail))
      refine wpQuiet_nil ?_
      rintro _ ⟨p, rfl⟩
      have gU := (lay_lw W2 p).1
      have HRU := Lib.hid (hR3.out.gr gU)
      have HSU := Lib.hid (HP.out.gr _ _ _ hS2.out gU)
      have HGU := Lib.hid (hG2.out.trans gU)
      have eg := HP.out.eg
      clear hR3 hS2 hG2 gU a2 a3 a4 b2 b3 b4 f3 f4 hdiv
      generalize lw W2 p = U at *
      go_wp2_with fail
      refine (HP.out.call U (l ++ pre) q 8 b c (by have := HLP.out; rw [List.length_append]; omega) hq HSU.out HRU.out HGU.out).mono ?_
      rintro e W3 ⟨rfl, hs3, hr3, hg3⟩
      have HS3 := Lib.hid hs3
      have HG3 := Lib.hid hg3
      obtain ⟨a3, f3, b3⟩ := oneI_facts hr3.bits
      obtain ⟨a4, f4, b4⟩ := oneI_facts hr3.count
      have HR3 := Lib.hid hr3
      clear hs3 hr3 hg3 HSU HRU HGU eg
      have e2 : ((2 ^ c - 1 : Nat) : Int) = (2 : Int) ^ c - 1 := by rw [Int.natCast_sub hc1]; simp
      have e3 : ((2 ^ c : Nat) : Int) = (2 : Int) ^ c := by simp
      have hw1 : IntKind.i64.wrap ((2 : Int) ^ c) = (2 : Int) ^ c := by rw [← e3, IntKind.wrap_i64]; omega
      have hw3 : IntKind.i64.wrap ((2 : Int) ^ c - 1) = (2 : Int) ^ c - 1 := by rw [← e2, IntKind.wrap_i64]; omega
      rw [e2] at hand0
      clear e2 e3
      go_wp2_with fail
      refine wp_region_tail 5 (fun u => ∃ p : LD, u = lw W3 p) (by kernel_rfl) (by kernel_rfl) (cl_drew W3) ?_
      simp only [List.take_succ_cons, List.take_zero, List.drop_succ_cons, List.drop_zero]
      repeat (go_big_quiet_step (fail))
      refine wpQuiet_nil ?_
      rintro _ ⟨p2, rfl⟩
      have gU := (lay_lw W3 p2).1
      have hrU := HR3.out.gr gU
      obtain ⟨d3, k3, e3⟩ := oneI_facts hrU.bits
      have HSU := Lib.hid (HP.out.set _ _ (X + 3) (.int .i64 ((valB rest : Nat) : Int)) (.inl rfl) (HP.out.gr _ _ _ HS3.out gU))
      have hrS := hrU.setBits ((valB rest : Nat) : Int)
      have HGU := Lib.hid ((HG3.out.trans gU).setOwn (b := X + 3) (o := 0) (by omega) (.int .i64 ((valB rest : Nat) : Int)))
      have HM := Lib.hid (oneI_facts hrS.count).1
      have HRU := Lib.hid hrS
      clear a3 a4 f3 f4 b3 b4 HR3 HS3 HG3 hand0 hw1 hw3 gU hrU hrS
      generalize lw W3 p2 = U2 at *
      go_wp2_with fail
      go_roundw
      case rel => exact ⟨rest, pre ++ [q], by have := HLP.out; rw [HC.out] at this; rw [HDL.out, List.length_append, List.length_singleton]; omega, HST.out, by show RgAt _ _ _ _ _ _ _; rw [HDL.out]; exact HRU.out, by show S _ _; rw [← List.append_assoc]; exact HSU.out, HGU.out⟩
      case measure => rw [HM.out, HA4.out]; simp [intOf]; omega
end Go.Proofs.YteknmbijodbfoaaGreatDoor

namespace Go.Proofs.YteknmbijodbfoaaGreatDoor
open Go.RowKit

/-- What add leaves. -/
def AddPost68 (X : Nat) (id : FuncId) (T : Nat) (S : World → List Nat → Prop) (w0 : World) (left : List Bool) (g : Nat) (l : List Nat) (e : Ending) (w' : World) : Prop :=
  e = .returned (.tuple #[]) ∧ RgAt w' X 6 8 (.func (.func id) #[] #[ptr T]) (valB (grp 8 (left ++ bitsK 6 g)).2 : Nat) ((grp 8 (left ++ bitsK 6 g)).2.length : Nat) ∧ S w' (l ++ (grp 8 (left ++ bitsK 6 g)).1) ∧ Gr w0 w'
set_option maxRecDepth 100000 in
set_option maxHeartbeats 4000000 in
theorem add68 (X : Nat) (id : FuncId) (T : Nat) (S : World → List Nat → Prop) (w0 : World) (hp : Pass 8 X w0 id T S) (hx : w0.heap.size ≤ X) (left : List Bool) (hl : left.length < 8) (g : Nat) (hg : g < 64) (l : List Nat) (hll : l.length ≤ 998000) (w : World)
    (hR : RgAt w X 6 8 (.func (.func id) #[] #[ptr T]) (valB left : Nat) (left.length : Nat)) (hS : S w l) (hG : Gr w0 w) :
    Calls Tryz.prog 186 #[.int .i64 (g : Int), ptr (X + 3), ptr X, ptr (X + 4), ptr (X + 1), ptr (X + 2)] w (AddPost68 X id T S w0 left g l) := by
  have hv1 : valB (left ++ bitsK 6 g) = valB left * 64 + g := by rw [valB_app, valB_bitsK 6 g hg, bitsK_len]
  have hlen1 : (left ++ bitsK 6 g).length = left.length + 6 := by rw [List.length_append, bitsK_len]
  have hbl : valB left < 256 := Nat.lt_of_lt_of_le (valB_lt left) (Nat.pow_le_pow_right (by decide) (show left.length ≤ 8 by omega))
  have hor : bits .or .i64 ((valB left : Int) * 64) (g : Int) = ((valB left * 64 + g : Nat) : Int) := or_fin68 ⟨valB left, hbl⟩ ⟨g, hg⟩
  have hwr : IntKind.i64.wrap ((valB left : Int) * 64) = (valB left : Int) * 64 := by rw [IntKind.wrap_i64]; omega
  have HR := Lib.hid hR; have HS := Lib.hid hS; have HG := Lib.hid hG; have HP := Lib.hid hp
  have HV := Lib.hid hv1; have HLN := Lib.hid hlen1
  obtain ⟨a0, _, b0⟩ := oneI_facts hR.fr
  obtain ⟨a1, _, b1⟩ := oneI_facts hR.ti
  obtain ⟨a3, f3, b3⟩ := oneI_facts hR.bits
  obtain ⟨a4, f4, b4⟩ := oneI_facts hR.count
  generalize valB left = B at *
  generalize left.length = C at *
  clear hv1 hlen1 hR hS hG hp
  unfold ptr
  go_enter Tryz.func186, Tryz.ntmps186
  go_wp2_with fail
  have hw2 : IntKind.i64.wrap ((C : Int) + 6) = (C : Int) + 6 := by rw [IntKind.wrap_i64]; omega
  apply wp_to (A := { tmps := #[.int .i64 (g : Int), .pointer (some ⟨X + 3, 0, none⟩), .pointer (some ⟨X, 0, none⟩), .pointer (some ⟨X + 4, 0, none⟩), .pointer (some ⟨X + 1, 0, none⟩), .pointer (some ⟨X + 2, 0, none⟩), undef, .int .i64 (B : Int), .int .i64 6, .int .i64 ((B : Int) * 64), .int .i64 (g : Int), .int .i64 ((B : Int) * 64 + (g : Int)), .int .i64 (C : Int), .int .i64 6, .int .i64 ((C : Int) + 6), undef, undef, undef, undef, undef, undef, undef, undef, undef, undef, undef, undef, undef, undef, undef, undef], defers := [] }) (W := ((w.setCell ⟨X + 3, 0, none⟩ (.int .i64 ((B : Int) * 64 + (g : Int)))).setCell ⟨X + 4, 0, none⟩ (.int .i64 ((C : Int) + 6))).drew)
  case h =>
    go_region_law (fail)
    all_goals exact ⟨rfl, rfl⟩
  have R1 := ((HR.out.setBits ((B : Int) * 64 + (g : Int))).setCount ((C : Int) + 6)).gr (Gr.refl _).drew
  have S1 := Lib.hid (HP.out.gr _ _ _ (HP.out.set _ _ (X + 4) (.int .i64 ((C : Int) + 6)) (.inr rfl) (HP.out.set _ _ (X + 3) (.int .i64 ((B : Int) * 64 + (g : Int))) (.inl rfl) HS.out)) (Gr.refl _).drew)
  have G1 := Lib.hid (((HG.out.setOwn (b := X + 3) (o := 0) (by omega) (.int .i64 ((B : Int) * 64 + (g : Int)))).setOwn (b := X + 4) (o := 0) (by omega) (.int .i64 ((C : Int) + 6))).drew)
  generalize ((w.setCell ⟨X + 3, 0, none⟩ (.int .i64 ((B : Int) * 64 + (g : Int)))).setCell ⟨X + 4, 0, none⟩ (.int .i64 ((C : Int) + 6))).drew = W1 at *
  have eB : (B : Int) * 64 + (g : Int) = ((valB (left ++ bitsK 6 g) : Nat) : Int) := by rw [HV.out]; omega
  have eC : (C : Int) + 6 = (((left ++ bitsK 6 g).length : Nat) : Int) := by rw [HLN.out]; omega
  have hl13 : (left ++ bitsK 6 g).length ≤ 13 := by rw [HLN.out]; omega
  rw [eB, eC] at R1
  have HR1 := Lib.hid R1
  obtain ⟨cur0, hcur0⟩ : ∃ c, left ++ bitsK 6 g = c := ⟨_, rfl⟩
  rw [hcur0] at HR1 hl13
  have HCUR := Lib.hid hcur0
  clear R1 eB eC hor hwr a0 b0 a1 b1 a3 f3 b3 a4 f4 b4 HR HS HG hbl hcur0 HV HLN
  go_wp2_with fail
  go_loopw [15, 16, 17, 18, 19, 20, 21, 22, 23, 24, 25, 26, 27, 28, 29, 30] (fun _ _ _ _ _ _ _ _ _ _ _ _ _ _ _ _ wr => ∃ cur pre, cur.length + pre.length ≤ 13 ∧ Hid (grp 8 cur0 = (pre ++ (grp 8 cur).1, (grp 8 cur).2)) ∧ Hid (RgAt wr X 6 8 (.func (.func id) #[] #[ptr T]) (valB cur : Nat) (cur.length : Nat)) ∧ Hid (S wr (l ++ pre)) ∧ Hid (Gr w0 wr)) (fun _ _ _ _ _ _ _ _ _ _ _ _ _ _ _ _ wr => (intOf ((wr.cell? ⟨X + 4, 0, none⟩).getD undef)).toNat)
  case atStart => exact ⟨cur0, [], by simpa using hl13, by show _ = _; simp, HR1.out, by show _; rw [List.append_nil]; exact S1.out, G1.out⟩
  case round =>
    obtain ⟨cur, pre, hlp, hg1, hR, hS, hG⟩ := hrel
    have hlen : cur.length ≤ 13 := by omega
    have HLP := Lib.hid hlp
    clear hlp
    obtain ⟨a0, -, b0⟩ := oneI_facts hR.out.fr
    obtain ⟨a1, -, b1⟩ := oneI_facts hR.out.ti
    obtain ⟨a3, f3, b3⟩ := oneI_facts hR.out.bits
    obtain ⟨a4, f4, b4⟩ := oneI_facts hR.out.count
    by_cases hlt : cur.length < 8
    · have e := grp_short hlt
      have hlt1 : ¬ (8 : Int) ≤ (cur.length : Int) := by omega
      have HE := Lib.hid e
      clear e
      go_wp2_with fail
      show bodyPost Tryz.prog Tryz.f186 (AddPost68 X id T S w0 left g l) .normal _ _
      refine bodyPost_endU (fn := Tryz.f186) rfl rfl ?_
      refine ⟨rfl, ?_, ?_, hG.out⟩
      · rw [HCUR.out, hg1.out, HE.out]; exact hR.out
      · rw [HCUR.out, hg1.out, HE.out]; show S wr (l ++ (pre ++ [])); rw [List.append_nil]; exact hS.out
    · obtain ⟨c, hc⟩ : ∃ c, cur.length = c + 8 := ⟨cur.length - 8, by omega⟩
      obtain ⟨hs1, hs2⟩ := val_split cur 8 c hc
      have hc7 : c ≤ 13 - 8 := by omega
      have hstep := grp_step (k := 8) (by decide) (l := cur) (by omega)
      have HST : Hid (grp 8 cur0 = ((pre ++ [valB (cur.take 8)]) ++ (grp 8 (cur.drop 8)).1, (grp 8 (cur.drop 8)).2)) := by
        show _ = _; rw [hg1.out, hstep]; simp
      have hdl : (cur.drop 8).length = c := by rw [List.length_drop]; omega
      have HDL := Lib.hid hdl
      have hq : valB (cur.take 8) < 2 ^ 8 := by have := valB_lt (cur.take 8); rwa [List.length_take, Nat.min_eq_left (by omega)] at this
      have hb13 : valB cur < 8192 := Nat.lt_of_lt_of_le (valB_lt cur) (Nat.le_trans (Nat.pow_le_pow_right (by decide) hlen) (by decide))
      have hc2 : 2 ^ c ≤ 128 := Nat.le_trans (Nat.pow_le_pow_right (by decide) (show c ≤ 7 by omega)) (by decide)
      have hc1 : 1 ≤ 2 ^ c := Nat.two_pow_pos c
      have hand0 : bits .and .i64 ((valB cur : Nat) : Int) ((2 ^ c - 1 : Nat) : Int) = ((valB (cur.drop 8) : Nat) : Int) := by
        rw [bits_and_nat _ _ (by omega) (by omega), Nat.and_two_pow_sub_one_eq_mod, hs2]
      rw [hc] at a4
      have HA4 := Lib.hid a4
      have hgc : (8 : Int) ≤ (c : Int) + 8 := by omega
      have HC := Lib.hid hc
      generalize hQ : valB (cur.take 8) = q at *
      generalize hD : cur.drop 8 = rest at *
      have hR2 := hR.out.setCount (c : Int)
      have hS2 := Lib.hid (HP.out.set _ _ (X + 4) (.int .i64 (c : Int)) (.inr rfl) hS.out)
      have hG2 := Lib.hid (hG.out.setOwn (b := X + 4) (o := 0) (by omega) (.int .i64 (c : Int)))
      clear hstep hdl hs2 hg1 hS hG hQ hD hR hlt hc
      generalize valB cur = b at *
      go_wp2_with fail
      generalize wr.setCell ⟨X + 4, 0, none⟩ (.int .i64 (c : Int)) = W2 at *
      clear a0 a1 a3 a4 f3 f4 b0 b1 b3 b4
      obtain ⟨a3, f3, b3⟩ := oneI_facts hR2.bits
      obtain ⟨a4, f4, b4⟩ := oneI_facts hR2.count
      have a2 : W2.cell? ⟨X + 2, 0, none⟩ = some (.func (.func id) #[] #[ptr T]) := cell_block (cs := [.func (.func id) #[] #[ptr T]]) hR2.pass 0
      have b2 := (Array.getElem?_eq_some_iff.1 hR2.pass).1
      have hdiv : (b : Int) / 2 ^ c = (q : Int) := by rw [← hs1]; simp
      have hR3 := Lib.hid hR2
      clear hR2
      refine wp_region_tail 4 (fun u => ∃ p : LD, u = lw W2 p) (by kernel_rfl) (by kernel_rfl) (cl_drew W2) ?_
      simp only [List.take_succ_cons, List.take_zero, List.drop_succ_cons, List.drop_zero]
      repeat (go_big_quiet_step (fail))
      refine wpQuiet_nil ?_
      rintro _ ⟨p, rfl⟩
      have gU := (lay_lw W2 p).1
      have HRU := Lib.hid (hR3.out.gr gU)
      have HSU := Lib.hid (HP.out.gr _ _ _ hS2.out gU)
      have HGU := Lib.hid (hG2.out.trans gU)
      have eg := HP.out.eg
      clear hR3 hS2 hG2 gU a2 a3 a4 b2 b3 b4 f3 f4 hdiv
      generalize lw W2 p = U at *
      go_wp2_with fail
      refine (HP.out.call U (l ++ pre) q 6 b c (by have := HLP.out; rw [List.length_append]; omega) hq HSU.out HRU.out HGU.out).mono ?_
      rintro e W3 ⟨rfl, hs3, hr3, hg3⟩
      have HS3 := Lib.hid hs3
      have HG3 := Lib.hid hg3
      obtain ⟨a3, f3, b3⟩ := oneI_facts hr3.bits
      obtain ⟨a4, f4, b4⟩ := oneI_facts hr3.count
      have HR3 := Lib.hid hr3
      clear hs3 hr3 hg3 HSU HRU HGU eg
      have e2 : ((2 ^ c - 1 : Nat) : Int) = (2 : Int) ^ c - 1 := by rw [Int.natCast_sub hc1]; simp
      have e3 : ((2 ^ c : Nat) : Int) = (2 : Int) ^ c := by simp
      have hw1 : IntKind.i64.wrap ((2 : Int) ^ c) = (2 : Int) ^ c := by rw [← e3, IntKind.wrap_i64]; omega
      have hw3 : IntKind.i64.wrap ((2 : Int) ^ c - 1) = (2 : Int) ^ c - 1 := by rw [← e2, IntKind.wrap_i64]; omega
      rw [e2] at hand0
      clear e2 e3
      go_wp2_with fail
      refine wp_region_tail 5 (fun u => ∃ p : LD, u = lw W3 p) (by kernel_rfl) (by kernel_rfl) (cl_drew W3) ?_
      simp only [List.take_succ_cons, List.take_zero, List.drop_succ_cons, List.drop_zero]
      repeat (go_big_quiet_step (fail))
      refine wpQuiet_nil ?_
      rintro _ ⟨p2, rfl⟩
      have gU := (lay_lw W3 p2).1
      have hrU := HR3.out.gr gU
      obtain ⟨d3, k3, e3⟩ := oneI_facts hrU.bits
      have HSU := Lib.hid (HP.out.set _ _ (X + 3) (.int .i64 ((valB rest : Nat) : Int)) (.inl rfl) (HP.out.gr _ _ _ HS3.out gU))
      have hrS := hrU.setBits ((valB rest : Nat) : Int)
      have HGU := Lib.hid ((HG3.out.trans gU).setOwn (b := X + 3) (o := 0) (by omega) (.int .i64 ((valB rest : Nat) : Int)))
      have HM := Lib.hid (oneI_facts hrS.count).1
      have HRU := Lib.hid hrS
      clear a3 a4 f3 f4 b3 b4 HR3 HS3 HG3 hand0 hw1 hw3 gU hrU hrS
      generalize lw W3 p2 = U2 at *
      go_wp2_with fail
      go_roundw
      case rel => exact ⟨rest, pre ++ [q], by have := HLP.out; rw [HC.out] at this; rw [HDL.out, List.length_append, List.length_singleton]; omega, HST.out, by show RgAt _ _ _ _ _ _ _; rw [HDL.out]; exact HRU.out, by show S _ _; rw [← List.append_assoc]; exact HSU.out, HGU.out⟩
      case measure => rw [HM.out, HA4.out]; simp [intOf]; omega
end Go.Proofs.YteknmbijodbfoaaGreatDoor

namespace Go.Proofs.YteknmbijodbfoaaGreatDoor
open Go.RowKit

/-- The table of characters. -/
def Alph (w : World) : Prop := ∀ i, i < 64 → w.cell? ⟨4, i, none⟩ = some (cU (b64C i))
theorem Alph.lt {w : World} (h : Alph w) : 4 < w.heap.size := World.block_lt_of_cell? w _ (h 0 (by decide))
theorem Alph.gr {w w' : World} (h : Alph w) (hg : Gr w w') : Alph w' := fun i hi => (hg.cell h.lt).trans (h i hi)
theorem OwnU.ne {w : World} {base : Nat} {v : Value} {l : List UInt8} (h : OwnU w base v l) {k : Nat} {cs : Array Value} {t : TypeId} {fr : Nat × Nat} (hk : w.heap[k]? = some (.cells cs t fr)) (ht : t ≠ 5) : v.ownBlock ≠ some k := by
  obtain ⟨_, h2⟩ := h
  rcases h2 with ⟨rfl, _⟩ | ⟨g, cap, cur, rfl, _, hh, _⟩
  · simp [Value.ownBlock]
  · intro e
    have e' : g = k := by simpa [Value.ownBlock] using e
    rw [e', hk] at hh
    simp only [Option.some.injEq, Obj.cells.injEq] at hh
    exact ht hh.2.1
theorem OwnU.set {w : World} {base : Nat} {v : Value} {l : List UInt8} (h : OwnU w base v l) (k o : Nat) (u : Value) (hk : v.ownBlock ≠ some k) : OwnU (w.setCell ⟨k, o, none⟩ u) base v l :=
  World.ownsRow.kept h (grown_set w k o u) (.inr hk)
/-- The text that is collected: at T, the bytes F of the groups. -/
def TxS (X T base : Nat) (F : Nat → UInt8) (W : World) (gs : List Nat) : Prop := ∃ v, W.heap[T]? = some (.cells #[v] 60 (0, 0)) ∧ OwnU W base v (gs.map F) ∧ v.ownBlock ≠ some (X + 3) ∧ v.ownBlock ≠ some (X + 4)
theorem TxS.set {X T base : Nat} {F : Nat → UInt8} (hT : T < X) (W : World) (l : List Nat) (k : Nat) (u : Value) (hk : k = X + 3 ∨ k = X + 4) (h : TxS X T base F W l) : TxS X T base F (W.setCell ⟨k, 0, none⟩ u) l := by
  obtain ⟨v, h1, h2, h3, h4⟩ := h
  exact ⟨v, (heap_setCell_other W ⟨k, 0, none⟩ T u (by show T ≠ k; omega)).trans h1, h2.set k 0 u (by rcases hk with rfl | rfl; exact h3; exact h4), h3, h4⟩
theorem TxS.gr {X T base : Nat} {F : Nat → UInt8} (W W' : World) (l : List Nat) (h : TxS X T base F W l) (hg : Gr W W') : TxS X T base F W' l := by
  obtain ⟨v, h1, h2, h3, h4⟩ := h
  exact ⟨v, (hg.block (Array.getElem?_eq_some_iff.1 h1).1).trans h1, h2.gr hg, h3, h4⟩
theorem RgAt.grown {w w' : World} {X : Nat} {fr ti : Int} {F : Value} {bits count : Int} {row : Option Nat} (h : RgAt w X fr ti F bits count) (hg : w.grownBy w' row) (hr : ∀ k, row = some k → k < X ∨ X + 4 < k) : RgAt w' X fr ti F bits count :=
  ⟨grown_block hg h.fr (fun e => by have := hr _ e; omega), grown_block hg h.ti (fun e => by have := hr _ e; omega), grown_block hg h.pass (fun e => by have := hr _ e; omega), grown_block hg h.bits (fun e => by have := hr _ e; omega), grown_block hg h.count (fun e => by have := hr _ e; omega)⟩
/-- A slice of bytes lies at none of the five variables. -/
theorem RgAt.away {w : World} {X : Nat} {fr ti : Int} {F : Value} {bits count : Int} (h : RgAt w X fr ti F bits count) {base : Nat} {v : Value} {l : List UInt8} (ho : OwnU w base v l) : ∀ k, v.ownBlock = some k → k < X ∨ X + 4 < k := fun k hk => by
  have h0 := ho.ne h.fr (by decide)
  have h1 := ho.ne h.ti (by decide)
  have h2 := ho.ne h.pass (by decide)
  have h3 := ho.ne h.bits (by decide)
  have h4 := ho.ne h.count (by decide)
  rw [hk] at h0 h1 h2 h3 h4
  simp only [ne_eq, Option.some.injEq] at h0 h1 h2 h3 h4
  omega
set_option maxRecDepth 100000 in
set_option maxHeartbeats 4000000 in
theorem enc1C (X T base : Nat) (w0 : World) (hT : T < X) (hb0 : w0.heap.size ≤ base) (hbT : base ≤ T) (hA0 : Alph w0) (W : World) (l : List Nat) (g : Nat) (fr b c : Int) (hll : l.length ≤ 999000) (hg : g < 64) (hS : TxS X T base b64C W l) (hR : RgAt W X fr 6 (.func (.func 165) #[] #[ptr T]) b c) (hG : Gr w0 W) :
    Calls Tryz.prog 165 #[.int .i64 (g : Int), ptr T] W fun e W' => e = .returned (.tuple #[]) ∧ TxS X T base b64C W' (l ++ [g]) ∧ RgAt W' X fr 6 (.func (.func 165) #[] #[ptr T]) b c ∧ Gr w0 W' := by
  obtain ⟨v, h1, h2, h3, h4⟩ := hS
  have hc : W.cell? ⟨T, 0, none⟩ = some v := cell_block (cs := [v]) h1 0
  have hf := free_block (cs := [v]) h1 0
  have hz := (Array.getElem?_eq_some_iff.1 h1).1
  have hal := hA0.gr hG g hg
  have hza := (hA0.gr hG).lt
  have hg1 : (g : Int) < 64 := by omega
  unfold cU at hal
  unfold ptr
  go_enter Tryz.func165, Tryz.ntmps165
  go_wp2_with fail
  have hvT : v.ownBlock ≠ some T := h2.ne h1 (by decide)
  have H1 := Lib.hid h1; have H2 := Lib.hid h2; have HR := Lib.hid hR; have HG := Lib.hid hG; have HGG := Lib.hid hG.size
  have HV : Hid (∀ k, v.ownBlock = some k → k < X ∨ X + 4 < k) := hR.away h2
  clear h1 h2 hR hG h3 h4
  obtain ⟨d, hd⟩ : ∃ d, b64C g = d := ⟨_, rfl⟩
  rw [hd] at hal
  have HD := Lib.hid hd
  clear hd
  apply wp_toR (R := fun x n W' => Hid (W'.heap[T]? = some (.cells #[.slice x (l.length + 1) n] 60 (0, 0))) ∧ Hid (OwnU W' base (.slice x (l.length + 1) n) (l.map b64C ++ [d])) ∧ Hid (RgAt W' X fr 6 (.func (.func 165) #[] #[ptr T]) b c) ∧ Hid (Gr w0 W'))
  case h =>
    go_region_law (first | (refine step_append_u8 rfl 8 rfl (.tmp 3) (.tmp 7) rfl base v (l.map b64C) (by simp [Act.eval]) (H2.out.gr ((Gr.refl W).drew.alloc _)) (.slice (some ⟨W.heap.size, 0, none⟩) 1 1) [d] (by simp [Act.eval]) (OwnU.made (l := [d]) (heap_alloc_new W.drew _) (by omega) (by simp)) (l.length + 1) (by simp) (by omega) (by simp; omega) ?_; intro a1 c1 w1 ho1 hg1; have HX := And.intro ho1 hg1; have hb1 := grown_block hg1 ((((Gr.refl W).drew.alloc (.cells #[.int .u8 (d.toNat : Int)] 5)).block hz).trans H1.out) hvT; have hc1 : w1.cell? ⟨T, 0, none⟩ = some v := cell_block (cs := [v]) hb1 0; have hf1 := free_block (cs := [v]) hb1 0; have hz1 := (Array.getElem?_eq_some_iff.1 hb1).1))
    all_goals exact ⟨a1, c1, ⟨heap_setCell_same w1 T 0 _ _ _ hb1, ho1.set T 0 _ (ho1.ne hb1 (by decide)), ((HR.out.gr ((Gr.refl W).drew.alloc _)).grown hg1 HV.out).grown (grown_set w1 T 0 _) (fun k hk => by cases hk; exact .inl hT), ((HG.out.trans ((Gr.refl W).drew.alloc _)).grown hg1 (fun k hk => Nat.le_trans hb0 (World.ownsRow.lt H2.out k hk).1)).setOwn (b := T) (o := 0) (by omega) _⟩, rfl⟩
  rintro x1 n1 W1 ⟨hb1, ho1, hr1, hg1⟩
  go_wp2_with fail
  go_end0
  have hn := hr1.out.away ho1.out
  have e : (l ++ [g]).map b64C = l.map b64C ++ [d] := by rw [List.map_append, ← HD.out]; rfl
  refine ⟨rfl, ⟨.slice x1 (l.length + 1) n1, hb1.out, by rw [e]; exact ho1.out, fun q => ?_, fun q => ?_⟩, hr1.out, hg1.out⟩
  · have := hn _ q; omega
  · have := hn _ q; omega
end Go.Proofs.YteknmbijodbfoaaGreatDoor

namespace Go.Proofs.YteknmbijodbfoaaGreatDoor
open Go.RowKit

theorem bits8_succ (l : List UInt8) (k : Nat) (h : k < l.length) : bits8 (l.take (k + 1)) = bits8 (l.take k) ++ bitsK 8 l[k].toNat := by
  rw [List.take_succ_eq_append_getElem h]; unfold bits8; rw [List.flatMap_append]; simp
theorem grp_snoc (l : List UInt8) (k : Nat) (h : k < l.length) : grp 6 (bits8 (l.take (k + 1))) = ((grp 6 (bits8 (l.take k))).1 ++ (grp 6 ((grp 6 (bits8 (l.take k))).2 ++ bitsK 8 l[k].toNat)).1, (grp 6 ((grp 6 (bits8 (l.take k))).2 ++ bitsK 8 l[k].toNat)).2) := by
  rw [bits8_succ l k h]; exact grp_app (by decide) _ _ _ (Nat.le_refl _)
/-- The text at T. -/
def TxB (T base : Nat) (W : World) (t : List UInt8) : Prop := ∃ v, W.heap[T]? = some (.cells #[v] 60 (0, 0)) ∧ OwnU W base v t
theorem OwnU.shape {w : World} {base : Nat} {v : Value} {l : List UInt8} (h : OwnU w base v l) : ∃ a c, v = .slice a l.length c := by
  obtain ⟨_, h2⟩ := h
  rcases h2 with ⟨rfl, h0⟩ | ⟨g, cap, cur, rfl, _⟩
  · exact ⟨none, 0, by rw [h0]⟩
  · exact ⟨_, _, rfl⟩
def lenV : Value → Nat
  | .slice _ n _ => n
  | _ => 0
theorem wpList_append_u8 (w : World) {ops : Array Oper} {rest : List Oper} {o : Oper} {a : Act} {Q : Exit → Act → World → Prop} (hgd : o.guard = none) (s x : Operand)
    (ho : o.op = .call { callee := .builtin .append, args := #[s, x], argTypes := #[60, 60] }) (base : Nat) (v : Value) (xs : List UInt8) (hs : a.eval s = v) (hown : OwnU w base v xs)
    (sv : Value) (ys : List UInt8) (hx : a.eval x = sv) (hsl : OwnU w base sv ys) (n : Nat) (hn : xs.length + ys.length = n) (h63 : n ≤ 1000000) (hbase : base ≤ w.heap.size)
    (h : ∀ a' c' w', OwnU w' base (.slice a' n c') (xs ++ ys) → w.grownBy w' v.ownBlock → wpList Tryz.prog ops Q rest (a.put o.dst (.slice a' n c')) w') :
    wpList Tryz.prog ops Q (o :: rest) a w := by
  subst hn
  obtain ⟨i, z, h1, h2, h3, h4, h5⟩ := infoU
  refine wpList_append_sl w hgd s x 60 ho base 5 i z 1 1 Tryz.underlying60 h1 h2 h3 h4 h5 (by decide) v xs.length (xs.map cU) hs hown sv (rowsU ys) hx hsl.sl (rowsU_len _) (rowsU_one _) (by rw [rowsU_length]; exact h63) (by decide) hbase ?_
  intro a' c' w' ho' hg _
  rw [rowsU_flat, rowsU_length] at ho'
  rw [rowsU_length]
  refine h a' c' w' ?_ hg
  unfold OwnU
  rw [List.map_append, List.length_append]; exact ho'
theorem enc_pass (X T base : Nat) (w0 : World) (hT : T < X) (hb0 : w0.heap.size ≤ base) (hbT : base ≤ T) (hA0 : Alph w0) : Pass 6 X w0 165 T (TxS X T base b64C) :=
  ⟨enters_of Tryz.func165 (by kernel_rfl) rfl, fun W l k u hk h => TxS.set hT W l k u hk h, fun W W' l h hg => TxS.gr W W' l h hg, fun W l g fr b c hll hg hS hR hG => enc1C X T base w0 hT hb0 hbT hA0 W l g fr b c hll hg hS hR hG⟩
set_option maxRecDepth 100000 in
set_option maxHeartbeats 4000000 in
theorem encodeC (g o c : Nat) (l : List UInt8) (w : World) (hA : Alph w) (hl : l.length ≤ 1000) (h : ByAt w g o l) : Calls Tryz.prog 132 #[.slice (some ⟨g, o, none⟩) l.length c] w fun e w' => e = .returned (.string (bs (encL l))) ∧ Gr w w' := by
  obtain ⟨N, hN, hN1⟩ : ∃ N : Nat, ((l.length : Int) + 2) / 3 * 4 = (N : Int) ∧ N ≤ 10000 := ⟨(l.length + 2) / 3 * 4, by omega, by omega⟩
  have hmk : ∀ w, (Instr.makeSlice 60 (.int .i64 0) (.int .i64 (((l.length : Int) + 2) / 3 * 4))).run Tryz.prog w = .ok (.slice (some ⟨w.heap.size, 0, none⟩) 0 N) (w.alloc (.cells (madeCells #[.int .u8 0] N) 5)) := by
    rw [hN]; exact run_makeU N (by omega)
  have HOO := Lib.hid ((OwnU.fresh w w.heap.size N w.heap.size rfl (Nat.le_refl _) (by omega)).gr ((Gr.refl _).alloc (.cells #[.slice (some ⟨w.heap.size, 0, none⟩) 0 N] 60)))
  have HTT := Lib.hid (heap_alloc2_new w (.cells (madeCells #[.int .u8 0] N) 5) (.cells #[.slice (some ⟨w.heap.size, 0, none⟩) 0 N] 60))
  have HGG := Lib.hid (((Gr.refl w).alloc (.cells (madeCells #[.int .u8 0] N) 5)).alloc (.cells #[.slice (some ⟨w.heap.size, 0, none⟩) 0 N] 60))
  have HSZ : Hid (((w.alloc (.cells (madeCells #[.int .u8 0] N) 5)).alloc (.cells #[.slice (some ⟨w.heap.size, 0, none⟩) 0 N] 60)).heap.size = w.heap.size + 2) := by show _ = _; simp
  have HB := Lib.hid h
  have HA := Lib.hid hA
  clear h hA hN
  go_enter Tryz.func132, Tryz.ntmps132
  go_wp2_with fail
  generalize (w.alloc (.cells (madeCells #[.int .u8 0] N) 5)).alloc (.cells #[.slice (some ⟨w.heap.size, 0, none⟩) 0 N] 60) = U0 at *
  refine (regroupC 8 6 (.func 165) #[] #[ptr (w.heap.size + 1)] U0).mono ?_
  rintro e U1 ⟨rfl, hr, hg, hsz⟩
  generalize U0.heap.size = X at *
  have hX := HSZ.out
  have HG1 := Lib.hid (HGG.out.trans hg)
  have HR1 := Lib.hid hr
  have HS1 : Hid (TxS X (w.heap.size + 1) w.heap.size b64C U1 []) := ⟨_, (hg.block (Array.getElem?_eq_some_iff.1 HTT.out).1).trans HTT.out, HOO.out.gr hg, by simp [Value.ownBlock]; omega, by simp [Value.ownBlock]; omega⟩
  have HP := Lib.hid (enc_pass X (w.heap.size + 1) w.heap.size w (by omega) (Nat.le_refl _) (by omega) HA.out)
  have hxw : w.heap.size ≤ X := by omega
  have HBB : Hid (∀ k (h : k < l.length), l[k]? = some l[k]) := fun k h => List.getElem?_eq_getElem h
  have HGS := Lib.hid (grp_snoc l)
  have HLEN : Hid (∀ k, k ≤ l.length → 6 * (grp 6 (bits8 (l.take k))).1.length + (grp 6 (bits8 (l.take k))).2.length = 8 * k ∧ (grp 6 (bits8 (l.take k))).2.length < 6) := fun k hk => ⟨by rw [grp_len (by decide), bits8_len, List.length_take, Nat.min_eq_left hk], grp_left (by decide) _ _ (Nat.le_refl _)⟩
  have HALL : Hid (bits8 (l.take l.length) = bits8 l) := by show _ = _; rw [List.take_length]
  clear hr hg hsz HSZ HOO HTT HGG hmk
  obtain ⟨n, hn⟩ : ∃ n, l.length = n := ⟨_, rfl⟩
  rw [hn] at hl HALL HLEN
  rw [hn]
  have HN := Lib.hid hn
  clear hn hX
  unfold fnAdd fnLeft ptr
  go_wp2_with fail
  go_loopw [7, 23, 24, 25, 26, 27, 28, 29, 30, 31] (fun _ i _ _ _ _ _ _ _ _ wr => ∃ k : Nat, k ≤ n ∧ i = .int .i64 k ∧ Hid (RgAt wr X 8 6 (.func (.func 165) #[] #[ptr (w.heap.size + 1)]) (valB (grp 6 (bits8 (l.take k))).2 : Nat) ((grp 6 (bits8 (l.take k))).2.length : Nat)) ∧ Hid (TxS X (w.heap.size + 1) w.heap.size b64C wr (grp 6 (bits8 (l.take k))).1) ∧ Hid (Gr w wr)) (fun _ i _ _ _ _ _ _ _ _ _ => n - (intOf i).toNat)
  case atStart => exact ⟨0, Nat.zero_le _, rfl, HR1.out, HS1.out, HG1.out⟩
  case round =>
    obtain ⟨k, hk, rfl, hR, hS, hG⟩ := hrel
    by_cases hlt : k < n
    · have hk1 : (k : Int) < (n : Int) := by omega
      have hk2 : (0 : Int) ≤ (k : Int) := by omega
      have hlk : k < l.length := by have := HN.out; omega
      have c0 := (hG.out.cell HB.out.1).trans (HB.out.2 k _ (HBB.out k hlk))
      unfold cU at c0
      have hz := Nat.lt_of_lt_of_le HB.out.1 hG.out.size
      have hx := l[k].toNat_lt
      have HSN := Lib.hid (HGS.out k hlk)
      obtain ⟨q1, q2⟩ := HLEN.out k hk
      have HAD := Lib.hid (add86 X 165 (w.heap.size + 1) (TxS X (w.heap.size + 1) w.heap.size b64C) w HP.out hxw (grp 6 (bits8 (l.take k))).2 q2 l[k].toNat (by omega) (grp 6 (bits8 (l.take k))).1 (by omega) wr hR.out hS.out hG.out)
      generalize l[k].toNat = x at *
      have hw8 : IntKind.i64.wrap (x : Int) = (x : Int) := by rw [IntKind.wrap_i64]; omega
      clear q1 q2 hR hS
      go_wp2_with fail
      refine HAD.out.mono ?_
      rintro e W2 ⟨rfl, hr2, hs2, hg2⟩
      have HR2 := Lib.hid hr2; have HS2 := Lib.hid hs2; have HG2 := Lib.hid hg2
      clear hr2 hs2 hg2 c0 hz HAD hw8
      go_wp2_with fail
      go_roundw
      case rel => exact ⟨k + 1, by omega, by go_num, by show RgAt _ _ _ _ _ _ _; rw [HSN.out]; exact HR2.out, by show TxS _ _ _ _ _ _; rw [HSN.out]; exact HS2.out, HG2.out⟩
      case measure => simp [intOf]; omega
    · have hk1 : ¬ (k : Int) < (n : Int) := by omega
      have hkn : k = n := by omega
      obtain ⟨q1, q2⟩ := HLEN.out k hk
      rw [hkn, HALL.out] at hR hS q1 q2
      have HEN : Hid (encL l = padT (encB (grp 6 (bits8 l)))) := rfl
      generalize grp 6 (bits8 l) = r at *
      obtain ⟨gs, left⟩ := r
      simp only at hR hS q1 q2
      have HLF := Lib.hid (leftC X 8 6 _ _ _ wr hR.out)
      have hgs : gs.length ≤ 9000 := by omega
      clear hkn HGS HALL HLEN HP HBB HR1 HS1 HG1 HB hR q1 hk
      unfold ptr at HLF
      go_wp2_with fail
      refine HLF.out.mono ?_
      rintro e W2 ⟨rfl, hg2⟩
      have HG2 := Lib.hid (hG.out.trans hg2)
      obtain ⟨v, h1, h2, -, -⟩ := TxS.gr _ _ _ hS.out hg2
      have HT2 : Hid (TxB (w.heap.size + 1) w.heap.size W2 (gs.map b64C)) := ⟨v, h1, h2⟩
      have HA2 := Lib.hid (HA.out.gr HG2.out)
      clear hg2 hS hG HLF HA h1 h2
      by_cases hle : left = []
      · subst hle
        have HE2 : Hid (encB (gs, []) = gs.map b64C) := by show _ = _; simp [encB]
        have HT4 := HT2
        have G4 := HG2
        rw [← HE2.out] at HT4
        have HT0 : Hid ((encB (gs, [])).length ≤ 9001) := by show _ ≤ _; rw [HE2.out, List.length_map]; omega
        generalize encB (gs, []) = t0 at *
        have HPT : Hid (padT t0 = t0 ++ List.replicate ((4 - t0.length % 4) % 4) 61) := rfl
        obtain ⟨p, hp⟩ : ∃ p, (4 - t0.length % 4) % 4 = p := ⟨_, rfl⟩
        rw [hp] at HPT
        have HPP := Lib.hid hp
        clear hp
        go_wp2_with fail
        go_loopw [48, 49, 50, 51, 52, 53, 54] (fun _ _ _ _ _ _ _ wr => ∃ j : Nat, j ≤ p ∧ Hid (TxB (w.heap.size + 1) w.heap.size wr (t0 ++ List.replicate j 61)) ∧ Hid (Gr w wr)) (fun _ _ _ _ _ _ _ wr => p + t0.length - lenV ((wr.cell? ⟨w.heap.size + 1, 0, none⟩).getD undef))
        case atStart => exact ⟨0, Nat.zero_le _, by show TxB _ _ _ _; simpa using HT4.out, G4.out⟩
        case round =>
          obtain ⟨j, hj, hT, hG⟩ := hrel
          obtain ⟨v, h1, h2⟩ := hT.out
          obtain ⟨a, cp, rfl⟩ := h2.shape
          rw [List.length_append, List.length_replicate] at h1 h2
          have hc : wr.cell? ⟨w.heap.size + 1, 0, none⟩ = some (.slice a (t0.length + j) cp) := cell_block (cs := [.slice a (t0.length + j) cp]) h1 0
          have hf := free_block (cs := [.slice a (t0.length + j) cp]) h1 0
          have hz := (Array.getElem?_eq_some_iff.1 h1).1
          have hne := h2.ne h1 (by decide)
          have H1 := Lib.hid h1; have H2 := Lib.hid h2; have HC := Lib.hid hc
          obtain ⟨m, hm⟩ : ∃ m, t0.length + j = m := ⟨_, rfl⟩
          rw [hm] at hc H1 H2 HC hne
          have HM := Lib.hid hm
          clear h1 h2 hm hT
          by_cases h4 : m % 4 = 0
          · have hjp : j = p := by have := HPP.out; have := HM.out; omega
            have hm4 : (m : Int) % 4 = 0 := by omega
            have hcv : (convert 60 9 (.slice a m cp)).run Tryz.prog wr = .ok (.string (bs (padT t0))) wr := by
              have h := H2.out.str
              rw [hjp, ← HPT.out] at h; exact h
            rw [← HEN.out] at hcv
            clear hjp h4
            go_wp2_with fail
            go_ret
            exact ⟨rfl, hG.out⟩
          · have hm4 : ¬ (m : Int) % 4 = 0 := by omega
            have hjp : j < p := by have := HPP.out; have := HM.out; omega
            have O7 := Lib.hid (H2.out.gr ((Gr.refl wr).alloc (.cells #[.int .u8 61] 5)))
            have O8 : Hid (OwnU (wr.alloc (.cells #[.int .u8 61] 5)) w.heap.size (.slice (some ⟨wr.heap.size, 0, none⟩) 1 1) [61]) := OwnU.made (l := [61]) (heap_alloc_new wr _) hG.out.size (by simp)
            have z7 : w.heap.size ≤ (wr.alloc (.cells #[.int .u8 61] 5)).heap.size := by have := hG.out.size; simp; omega
            have hmb : m ≤ 90000 := by have := HM.out; have := HT0.out; have := HPP.out; omega
            have B7 := Lib.hid ((((Gr.refl wr).alloc (.cells #[.int .u8 61] 5)).block hz).trans H1.out)
            have HML : Hid ((t0 ++ List.replicate j 61).length + 1 = m + 1) := by show _ = _; rw [List.length_append, List.length_replicate, HM.out]
            clear h4
            go_wp2_with (refine wpList_append_u8 _ rfl _ _ rfl w.heap.size (.slice a m cp) (t0 ++ List.replicate j 61) (by simp [Act.eval]) O7.out (.slice (some ⟨wr.heap.size, 0, none⟩) 1 1) [61] (by simp [Act.eval]) O8.out (m + 1) HML.out (by omega) z7 ?_; intro a3 n3 w3 ho3 hg3; have b3 := grown_block hg3 B7.out hne; have c3 : w3.cell? ⟨w.heap.size + 1, 0, none⟩ = some (.slice a m cp) := cell_block (cs := [.slice a m cp]) b3 0; have f3 := free_block (cs := [.slice a m cp]) b3 0; have z3 := (Array.getElem?_eq_some_iff.1 b3).1)
            have hb5 := heap_setCell_same w3 (w.heap.size + 1) 0 _ _ (.slice a3 (m + 1) n3) b3
            have hc5 : (w3.setCell ⟨w.heap.size + 1, 0, none⟩ (.slice a3 (m + 1) n3)).cell? ⟨w.heap.size + 1, 0, none⟩ = some (.slice a3 (m + 1) n3) := cell_block (cs := [.slice a3 (m + 1) n3]) hb5 0
            refine ⟨⟨j + 1, by omega, ⟨_, hb5, ?_⟩, ((hG.out.alloc _).grown hg3 (fun k hk => (World.ownsRow.lt H2.out k hk).1)).setOwn (b := w.heap.size + 1) (o := 0) (by omega) _⟩, ?_⟩
            · have e : t0 ++ List.replicate (j + 1) 61 = t0 ++ List.replicate j 61 ++ [61] := by rw [List.replicate_succ', List.append_assoc]
              rw [e]; exact ho3.set _ 0 _ (ho3.ne b3 (by decide))
            · rw [hc5, HC.out]; have := HM.out; simp only [Option.getD_some, lenV]; omega
      · have hC1 : 1 ≤ left.length := by cases left with | nil => exact absurd rfl hle | cons b l => simp
        have HE2 : Hid (encB (gs, left) = gs.map b64C ++ [b64C (valB left * 2 ^ (6 - left.length))]) := by show _ = _; unfold encB; rw [if_neg hle]
        have hlt2 := valB_lt left
        have hQ : valB left * 2 ^ (6 - left.length) < 64 := by
          have h6 : 2 ^ left.length * 2 ^ (6 - left.length) = 64 := by rw [← Nat.pow_add, show left.length + (6 - left.length) = 6 by omega]
          rw [← h6]; exact Nat.mul_lt_mul_of_pos_right hlt2 (Nat.two_pow_pos _)
        have hal := HA2.out (valB left * 2 ^ (6 - left.length)) hQ
        have hQe : (valB left : Int) * 2 ^ (6 - left.length) = ((valB left * 2 ^ (6 - left.length) : Nat) : Int) := by simp
        obtain ⟨v, h1, h2⟩ := HT2.out
        have hc : W2.cell? ⟨w.heap.size + 1, 0, none⟩ = some v := cell_block (cs := [v]) h1 0
        have hf := free_block (cs := [v]) h1 0
        have hz := (Array.getElem?_eq_some_iff.1 h1).1
        have hza := HA2.out.lt
        have hne := h2.ne h1 (by decide)
        have H1 := Lib.hid h1; have H2 := Lib.hid h2
        obtain ⟨D, hD, hD2⟩ : ∃ D : Nat, (6 : Int) - (left.length : Int) = (D : Int) ∧ 6 - left.length = D := ⟨6 - left.length, by omega, rfl⟩
        rw [hD2] at hal hQ hQe HE2
        obtain ⟨d, hd⟩ : ∃ d, b64C (valB left * 2 ^ D) = d := ⟨_, rfl⟩
        rw [hd] at hal HE2
        unfold cU at hal
        generalize valB left * 2 ^ D = Q at *
        generalize valB left = B at *
        have hCi : (0 : Int) < (left.length : Int) := by omega
        have hQw : IntKind.i64.wrap (Q : Int) = (Q : Int) := by rw [IntKind.wrap_i64]; omega
        have hQi : (Q : Int) < 64 := by omega
        have hDn : ((D : Int)).toNat = D := by simp
        have hD64 : D ≤ 64 := by omega
        have hwD : IntKind.i64.wrap (D : Int) = (D : Int) := by rw [IntKind.wrap_i64]; omega
        have hwQ : IntKind.i64.wrap ((B : Int) * 2 ^ D) = (Q : Int) := by rw [hQe, hQw]
        have hsz2 : w.heap.size ≤ W2.heap.size := HG2.out.size
        clear h1 h2 hle hC1 hlt2 hD2 hd HT2
        go_wp2_with fail
        apply wp_toR (R := fun x n W' => Hid (TxB (w.heap.size + 1) w.heap.size W' (gs.map b64C ++ [d])) ∧ Hid (Gr w W'))
        case h =>
          go_region_law (first | (refine step_append_u8 rfl 47 rfl (.tmp 39) (.tmp 46) rfl w.heap.size v (gs.map b64C) (by simp [Act.eval]) (H2.out.gr ((Gr.refl W2).drew.alloc _)) (.slice (some ⟨W2.heap.size, 0, none⟩) 1 1) [d] (by simp [Act.eval]) (OwnU.made (l := [d]) (heap_alloc_new W2.drew _) hsz2 (by simp)) (gs.length + 1) (by simp) (by omega) (by simp; omega) ?_; intro a1 c1 w1 ho1 hg1; have HX := And.intro ho1 hg1; have hb1 := grown_block hg1 ((((Gr.refl W2).drew.alloc (.cells #[.int .u8 (d.toNat : Int)] 5)).block hz).trans H1.out) hne; have hc1 : w1.cell? ⟨w.heap.size + 1, 0, none⟩ = some v := cell_block (cs := [v]) hb1 0; have hf1 := free_block (cs := [v]) hb1 0; have hz1 := (Array.getElem?_eq_some_iff.1 hb1).1))
          all_goals exact ⟨a1, c1, ⟨⟨_, heap_setCell_same w1 (w.heap.size + 1) 0 _ _ _ hb1, ho1.set (w.heap.size + 1) 0 _ (ho1.ne hb1 (by decide))⟩, ((HG2.out.trans ((Gr.refl W2).drew.alloc _)).grown hg1 (fun k hk => (World.ownsRow.lt H2.out k hk).1)).setOwn (b := w.heap.size + 1) (o := 0) (by omega) _⟩, rfl⟩
        rintro x1 n1 W4 ⟨HT4, G4⟩
        have HT0 : Hid ((encB (gs, left)).length ≤ 9001) := by show _ ≤ _; rw [HE2.out, List.length_append, List.length_map]; simp; omega
        rw [← HE2.out] at HT4
        clear hc hf hz hza hne H1 H2 hD HE2 hal hQe hQw hQi hDn hD64 hQ hwD hwQ
        generalize encB (gs, left) = t0 at *
        have HPT : Hid (padT t0 = t0 ++ List.replicate ((4 - t0.length % 4) % 4) 61) := rfl
        obtain ⟨p, hp⟩ : ∃ p, (4 - t0.length % 4) % 4 = p := ⟨_, rfl⟩
        rw [hp] at HPT
        have HPP := Lib.hid hp
        clear hp
        go_wp2_with fail
        go_loopw [48, 49, 50, 51, 52, 53, 54] (fun _ _ _ _ _ _ _ wr => ∃ j : Nat, j ≤ p ∧ Hid (TxB (w.heap.size + 1) w.heap.size wr (t0 ++ List.replicate j 61)) ∧ Hid (Gr w wr)) (fun _ _ _ _ _ _ _ wr => p + t0.length - lenV ((wr.cell? ⟨w.heap.size + 1, 0, none⟩).getD undef))
        case atStart => exact ⟨0, Nat.zero_le _, by show TxB _ _ _ _; simpa using HT4.out, G4.out⟩
        case round =>
          obtain ⟨j, hj, hT, hG⟩ := hrel
          obtain ⟨v, h1, h2⟩ := hT.out
          obtain ⟨a, cp, rfl⟩ := h2.shape
          rw [List.length_append, List.length_replicate] at h1 h2
          have hc : wr.cell? ⟨w.heap.size + 1, 0, none⟩ = some (.slice a (t0.length + j) cp) := cell_block (cs := [.slice a (t0.length + j) cp]) h1 0
          have hf := free_block (cs := [.slice a (t0.length + j) cp]) h1 0
          have hz := (Array.getElem?_eq_some_iff.1 h1).1
          have hne := h2.ne h1 (by decide)
          have H1 := Lib.hid h1; have H2 := Lib.hid h2; have HC := Lib.hid hc
          obtain ⟨m, hm⟩ : ∃ m, t0.length + j = m := ⟨_, rfl⟩
          rw [hm] at hc H1 H2 HC hne
          have HM := Lib.hid hm
          clear h1 h2 hm hT
          by_cases h4 : m % 4 = 0
          · have hjp : j = p := by have := HPP.out; have := HM.out; omega
            have hm4 : (m : Int) % 4 = 0 := by omega
            have hcv : (convert 60 9 (.slice a m cp)).run Tryz.prog wr = .ok (.string (bs (padT t0))) wr := by
              have h := H2.out.str
              rw [hjp, ← HPT.out] at h; exact h
            rw [← HEN.out] at hcv
            clear hjp h4
            go_wp2_with fail
            go_ret
            exact ⟨rfl, hG.out⟩
          · have hm4 : ¬ (m : Int) % 4 = 0 := by omega
            have hjp : j < p := by have := HPP.out; have := HM.out; omega
            have O7 := Lib.hid (H2.out.gr ((Gr.refl wr).alloc (.cells #[.int .u8 61] 5)))
            have O8 : Hid (OwnU (wr.alloc (.cells #[.int .u8 61] 5)) w.heap.size (.slice (some ⟨wr.heap.size, 0, none⟩) 1 1) [61]) := OwnU.made (l := [61]) (heap_alloc_new wr _) hG.out.size (by simp)
            have z7 : w.heap.size ≤ (wr.alloc (.cells #[.int .u8 61] 5)).heap.size := by have := hG.out.size; simp; omega
            have hmb : m ≤ 90000 := by have := HM.out; have := HT0.out; have := HPP.out; omega
            have B7 := Lib.hid ((((Gr.refl wr).alloc (.cells #[.int .u8 61] 5)).block hz).trans H1.out)
            have HML : Hid ((t0 ++ List.replicate j 61).length + 1 = m + 1) := by show _ = _; rw [List.length_append, List.length_replicate, HM.out]
            clear h4
            go_wp2_with (refine wpList_append_u8 _ rfl _ _ rfl w.heap.size (.slice a m cp) (t0 ++ List.replicate j 61) (by simp [Act.eval]) O7.out (.slice (some ⟨wr.heap.size, 0, none⟩) 1 1) [61] (by simp [Act.eval]) O8.out (m + 1) HML.out (by omega) z7 ?_; intro a3 n3 w3 ho3 hg3; have b3 := grown_block hg3 B7.out hne; have c3 : w3.cell? ⟨w.heap.size + 1, 0, none⟩ = some (.slice a m cp) := cell_block (cs := [.slice a m cp]) b3 0; have f3 := free_block (cs := [.slice a m cp]) b3 0; have z3 := (Array.getElem?_eq_some_iff.1 b3).1)
            have hb5 := heap_setCell_same w3 (w.heap.size + 1) 0 _ _ (.slice a3 (m + 1) n3) b3
            have hc5 : (w3.setCell ⟨w.heap.size + 1, 0, none⟩ (.slice a3 (m + 1) n3)).cell? ⟨w.heap.size + 1, 0, none⟩ = some (.slice a3 (m + 1) n3) := cell_block (cs := [.slice a3 (m + 1) n3]) hb5 0
            refine ⟨⟨j + 1, by omega, ⟨_, hb5, ?_⟩, ((hG.out.alloc _).grown hg3 (fun k hk => (World.ownsRow.lt H2.out k hk).1)).setOwn (b := w.heap.size + 1) (o := 0) (by omega) _⟩, ?_⟩
            · have e : t0 ++ List.replicate (j + 1) 61 = t0 ++ List.replicate j 61 ++ [61] := by rw [List.replicate_succ', List.append_assoc]
              rw [e]; exact ho3.set _ 0 _ (ho3.ne b3 (by decide))
            · rw [hc5, HC.out]; have := HM.out; simp only [Option.getD_some, lenV]; omega
end Go.Proofs.YteknmbijodbfoaaGreatDoor

namespace Go.Proofs.YteknmbijodbfoaaGreatDoor
open Go.RowKit

theorem ByAt.sl {w : World} {g o : Nat} {l : List UInt8} (h : ByAt w g o l) (n c : Nat) (hn : l.length = n) (hc : n ≤ c) : SlAt w (.slice (some ⟨g, o, none⟩) n c) 1 (rowsU l) := by
  subst hn
  refine ⟨some ⟨g, o, none⟩, c, by rw [rowsU_length], by rw [rowsU_length]; exact hc, fun j hj => ?_⟩
  rw [rowsU_length] at hj
  have hx := h.2 j _ (List.getElem?_eq_getElem hj)
  refine ⟨g, o, rfl, h.1, ?_, ?_⟩
  · rw [Nat.mul_one, hasRow_iff]
    intro i hi
    obtain rfl : i = 0 := by omega
    rw [Addr.add_lit, Nat.add_zero, hx]; rfl
  · have e : (rowsU l)[j]'(by rw [rowsU_length]; exact hj) = [cU l[j]] := by simp [rowsU]
    rw [Nat.mul_one, e]
    simp [rowAt, Addr.add_lit, hx]
/-- .. whatever is appended. -/
theorem step_append_u8s {ops : Array Oper} {o : Oper} {a : Act} {w : World} {K : Act → World → Prop} {Q : Exit → Act → World → Prop} {E : Prop}
    (hg : o.guard = none) (d : Nat) (hd : o.dst = some d) (s x : Operand) (hop : o.op = Op.call { callee := Callee.builtin Builtin.append, args := #[s, x], argTypes := #[60, 60] })
    (base : Nat) (v : Value) (xs : List UInt8) (hs : a.eval s = v) (hown : OwnU w base v xs) (sv : Value) (ys : List UInt8) (hx : a.eval x = sv) (hsl : SlAt w sv 1 (rowsU ys)) (N : Nat) (hN : xs.length + ys.length = N) (h63 : N ≤ 1000000) (hbase : base ≤ w.heap.size)
    (hK : ∀ a' c' w', OwnU w' base (.slice a' N c') (xs ++ ys) → w.grownBy w' v.ownBlock → K (a.put (some d) (.slice a' N c')) w') :
    if Region.wanted o (yielded ops a.tmps) = true then Oper.wp Tryz.prog o a w K Q else E := by
  subst hN
  have hw : Region.wanted o (yielded ops a.tmps) = true := by simp [Region.wanted, hg]
  rw [if_pos hw]
  obtain ⟨i, z, i1, i2, i3, i4, i5⟩ := infoU
  obtain ⟨a', c', w', hrun, h2, h3, _⟩ := run_append_sl (P := Tryz.prog) w base 60 o.type 5 i z 1 1 Tryz.underlying60 i1 i2 i3 i4 i5 (by decide) v xs.length (xs.map cU) hown sv (rowsU ys) hsl (rowsU_len _) (rowsU_one _) (by rw [rowsU_length]; exact h63) (by decide) hbase
  rw [rowsU_length] at hrun h2
  rw [rowsU_flat] at h2
  unfold Oper.wp
  simp [execOp, hop, resolve, invoke, builtin, hs, hx, hrun, Result.andThen]
  show K (a.put o.dst _) w'
  rw [hd]
  refine hK a' c' w' ?_ h3
  unfold OwnU
  rw [List.map_append, List.length_append]; exact h2
def pubB (h : Int) (r : Aut) : List UInt8 := UInt8.ofNat h.toNat :: r.toList
theorem pubT_eq (h : Int) (r : Aut) : pubT h r = encL (pubB h r) := rfl
theorem pubB_len (h : Int) (r : Aut) : (pubB h r).length = 17 := by simp [pubB]
set_option maxRecDepth 100000 in
set_option maxHeartbeats 2000000 in
theorem pubBytesC (h : Int) (r : Aut) (w : World) (h1 : 1 ≤ h) (h8 : h ≤ 8) : Calls Tryz.prog 16 #[.agg (pubC h r).toArray] w fun e w' => ∃ v, e = .returned v ∧ OwnU w' w.heap.size v (pubB h r) ∧ Gr w w' := by
  have hb := heap_alloc_new w (.cells (pubC h r).toArray 31)
  have g0 := (Gr.refl w).alloc (.cells (pubC h r).toArray 31)
  have c0 : (w.alloc (.cells (pubC h r).toArray 31)).cell? ⟨w.heap.size, 0, none⟩ = some (.int .i64 h) := cell_block hb 0
  have HBY : Hid (ByAt (w.alloc (.cells (pubC h r).toArray 31)) w.heap.size 1 r.toList) := ⟨by simp, fun j x hj => by
    rw [cell_block hb]; unfold pubC
    rw [Nat.add_comm, List.getElem?_cons_succ]; unfold bC; rw [List.getElem?_map, hj]; rfl⟩
  have hz : w.heap.size < (w.alloc (.cells (pubC h r).toArray 31)).heap.size := by simp
  have G0 := Lib.hid g0
  obtain ⟨n, hn⟩ : ∃ n : Nat, h = (n : Int) := ⟨h.toNat, by omega⟩
  subst hn
  have hw : IntKind.u8.wrap (n : Int) = (n : Int) := by rw [IntKind.wrap_u8]; omega
  have hw2 : (n : Int) % 256 = (n : Int) := by omega
  have e1 : cU (UInt8.ofNat n) = .int .u8 (n : Int) := by unfold cU; simp; omega
  have E1 := Lib.hid e1
  clear hb g0 e1
  go_enter Tryz.func16, Tryz.ntmps16
  go_wp2_with fail
  generalize w.alloc (.cells (pubC (n : Int) r).toArray 31) = W at *
  have HO : Hid (OwnU (W.drew.alloc (.cells #[.int .u8 (n : Int)] 5)) w.heap.size (.slice (some ⟨W.heap.size, 0, none⟩) 1 1) [UInt8.ofNat n]) := by
    rw [← E1.out]; exact OwnU.made (l := [UInt8.ofNat n]) (heap_alloc_new W.drew _) (Nat.le_of_lt hz) (by simp)
  have HSL := Lib.hid ((HBY.out.gr ((Gr.refl W).drew.alloc (.cells #[.int .u8 (n : Int)] 5))).sl 16 16 (by simp) (Nat.le_refl _))
  have hb17 : w.heap.size ≤ (W.drew.alloc (.cells #[.int .u8 (n : Int)] 5)).heap.size := by simp; omega
  have hlen : (r.toList).length = 16 := by simp
  apply wp_toR (R := fun x m W' => Hid (OwnU W' w.heap.size (.slice x 17 m) (pubB (n : Int) r)) ∧ Hid (Gr w W'))
  case h =>
    go_region_law (first | (refine step_append_u8s rfl 9 rfl (.tmp 6) (.tmp 8) rfl w.heap.size (.slice (some ⟨W.heap.size, 0, none⟩) 1 1) [UInt8.ofNat n] (by simp [Act.eval]) HO.out (.slice (some ⟨w.heap.size, 1, none⟩) 16 16) r.toList (by simp [Act.eval]) HSL.out 17 (by simp) (by decide) hb17 ?_; intro a1 c1 w1 ho1 hg1))
    all_goals exact ⟨a1, c1, ⟨ho1, (G0.out.trans ((Gr.refl W).drew.alloc (.cells #[.int .u8 (n : Int)] 5))).grown hg1 (fun k hk => by cases hk; exact Nat.le_of_lt hz)⟩, rfl⟩
  rintro x1 m1 W1 ⟨ho1, hg1⟩
  go_wp2_with fail
  go_ret
  exact ⟨_, rfl, ho1.out, hg1.out⟩
set_option maxRecDepth 100000 in
set_option maxHeartbeats 2000000 in
theorem b64EncodeC (g c n : Nat) (s : ByteArray) (w : World) (hn : n ≤ 1000) (h : Calls Tryz.prog 132 #[.slice (some ⟨g, 0, none⟩) n c] w fun e w' => e = .returned (.string s) ∧ Gr w w') :
    Calls Tryz.prog 101 #[.slice (some ⟨g, 0, none⟩) n c] w fun e w' => e = .returned (.tuple #[.string s, .int .i64 0]) ∧ Gr w w' := by
  have H := Lib.hid h
  have h1 : ¬ 131072 < (n : Int) := by omega
  clear h
  go_enter Tryz.func101, Tryz.ntmps101
  go_wp2_with fail
  refine H.out.mono ?_
  rintro e w1 ⟨rfl, hg1⟩
  have G1 := Lib.hid hg1
  clear hg1
  go_wp2_with fail
  go_ret2
  exact ⟨rfl, G1.out⟩
set_option maxRecDepth 100000 in
set_option maxHeartbeats 2000000 in
theorem pubTextC (h : Int) (r : Aut) (w : World) (hA : Alph w) (h1 : 1 ≤ h) (h8 : h ≤ 8) : Calls Tryz.prog 78 #[.agg (pubC h r).toArray] w fun e w' => e = .returned (.tuple #[.string (bs (pubT h r)), .int .i64 0]) ∧ Gr w w' := by
  have hb := heap_alloc_new w (.cells (pubC h r).toArray 31)
  have g0 := (Gr.refl w).alloc (.cells (pubC h r).toArray 31)
  have HCK : Hid (∀ W, Calls Tryz.prog 14 #[.agg (pubC h r).toArray] W fun e w' => e = .returned (.int .i64 0) ∧ Gr W w') := fun W => by
    have hc := pubCheckC h r W
    rw [show heightErr h = 0 by unfold heightErr; rw [if_neg (by omega)]] at hc; exact hc
  have HBT : Hid (∀ W, Calls Tryz.prog 16 #[.agg (pubC h r).toArray] W fun e w' => ∃ v, e = .returned v ∧ OwnU w' W.heap.size v (pubB h r) ∧ Gr W w') := fun W => pubBytesC h r W h1 h8
  have HL := Lib.hid (pubB_len h r)
  have HA := Lib.hid hA
  have HT : Hid (encL (pubB h r) = pubT h r) := rfl
  have r0 := hasRow_block hb 0 17 (by rw [pubC_length]; decide)
  have q0 := (rowAt_block hb 0 17 (by rw [pubC_length]; decide)).trans (rowOf_all _ _ (pubC_length h r))
  have HB := Lib.hid hb
  have G0 := Lib.hid g0
  clear hb g0 hA
  go_enter Tryz.func78, Tryz.ntmps78
  go_wp2_with fail
  refine (HCK.out _).mono ?_
  rintro e w1 ⟨rfl, hg1⟩
  have hb1 := (hg1.block (b := w.heap.size) (by simp)).trans HB.out
  have r1 := hasRow_block hb1 0 17 (by rw [pubC_length]; decide)
  have q1 := (rowAt_block hb1 0 17 (by rw [pubC_length]; decide)).trans (rowOf_all _ _ (pubC_length h r))
  have G1 := Lib.hid (G0.out.trans hg1)
  clear r0 q0 hg1 hb1 HB
  go_wp2_with fail
  refine (HBT.out _).mono ?_
  rintro e w2 ⟨v, rfl, hv, hg2⟩
  have G2 := Lib.hid (G1.out.trans hg2)
  obtain ⟨g, c, rfl, hc, hg, _, hcell⟩ := hv.cells (by intro e; have := HL.out; rw [e] at this; cases this)
  have HEN := Lib.hid (encodeC g 0 c (pubB h r) w2 (HA.out.gr G2.out) (by rw [HL.out]; decide) ⟨hg, hcell⟩)
  rw [HL.out, HT.out] at HEN
  rw [HL.out]
  clear hv hg2 hcell r1 q1 HBT HCK
  go_wp2_with fail
  refine (b64EncodeC g c 17 _ w2 (by decide) HEN.out).mono ?_
  rintro e w3 ⟨rfl, hg3⟩
  have G3 := Lib.hid (G2.out.trans hg3)
  clear hg3 HEN
  go_wp2_with fail
  go_ret2
  exact ⟨rfl, G3.out⟩
end Go.Proofs.YteknmbijodbfoaaGreatDoor

namespace Go.Proofs.YteknmbijodbfoaaGreatDoor
open Go.RowKit

def smallB (c : Cm) : Bool := decide (c.group.size ≤ 200) && (decide (c.mods.length ≤ 20) && decide (c.text.size ≤ 400))
theorem small_mods {c : Cm} (h : smallB c = true) : c.mods.length ≤ 20 ∧ c.text.size ≤ 400 ∧ c.group.size ≤ 200 := by
  unfold smallB at h
  simp only [Bool.and_eq_true, decide_eq_true_eq] at h
  exact ⟨h.2.1, h.2.2, h.1⟩
/-! ### a slice of one author -/
def bsR (P : Program) (t : TypeId) (n : Nat) (ps : Array (Nat × Value)) (w : World) : Result Next := (do pure (Next.value (← Instr.buildSlice t n ps)) : Sem Next).run P w
@[local go_sem ↓] theorem exec_bsl {P : Program} (ρ : Operand → Value) (d : Option Tmp) (ps : Array (Nat × Operand)) (ty : TypeId) (p : String) (af : Array Edge) (g : Option (Nat × Bool)) (w : World) :
    Sem.run P (execOp ρ ⟨d, .buildSlice 175 1 ps, ty, p, af, g⟩) w = bsR P 175 1 (ps.map fun x => (x.1, ρ x.2)) w := rfl
theorem bs_of {P : Program} {t : TypeId} {n : Nat} {ps : Array (Nat × Value)} {v : Value} {w w' : World} (h : (Instr.buildSlice t n ps).run P w = .ok v w') : bsR P t n ps w = .ok (.value v) w' := by simp [bsR, h]
theorem bSl1F (f : Nat → Value) (w : World) : (Instr.buildSlice 175 1 #[(0, .agg ((List.range 16).map f).toArray)]).run Tryz.prog w = .ok (.slice (some ⟨w.heap.size, 0, none⟩) 1 1) (w.alloc (.cells ((List.range 16).map f).toArray 35)) := by kernel_rfl
@[local go_sem] theorem kSl1 (y : Aut) (w : World) : bsR Tryz.prog 175 1 #[(0, .agg (bC y).toArray)] w = .ok (.value (.slice (some ⟨w.heap.size, 0, none⟩) 1 1)) (w.alloc (.cells (bC y).toArray 35)) := bs_of (by rw [bC_exp]; exact bSl1F _ w)
end Go.Proofs.YteknmbijodbfoaaGreatDoor

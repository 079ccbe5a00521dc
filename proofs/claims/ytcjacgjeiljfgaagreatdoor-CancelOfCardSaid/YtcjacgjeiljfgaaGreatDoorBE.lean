/- base64.regroup: groups of bits. base64.regroup: add, groups of 8 bits into groups of 6. base64.regroup: add, groups of 6 bits into groups of 8. base64.encode: what takes the groups. base64.encode. signer.PublicText. control.Print of a cancellation, an approval, a key. Texts of commands fit into header fields (plain). control.Print: what it returns, for every command. -/
import Derived.Test.YtcjacgjeiljfgaaGreatDoorBD
import Derived.Test.YtcjacgjeiljfgaaGreatDoorBB
import Derived.Test.YtcjacgjeiljfgaaGreatDoorBC
import Derived.Lib.AppendIntMem
namespace Go.Proofs.YtcjacgjeiljfgaaGreatDoor
open Go.RowKit

def ptr (b : Nat) : Value := .pointer (some ⟨b, 0, none⟩)
def oneI (n : Int) : Obj := .cells #[.int .i64 n] 3 (0, 0)
def fnAdd (X : Nat) : Value := .func (.func 139) #[] #[ptr (X + 3), ptr X, ptr (X + 4), ptr (X + 1), ptr (X + 2)]
def fnLeft (X : Nat) : Value := .func (.func 140) #[] #[ptr (X + 3), ptr (X + 4)]
/-- The five captured variables. -/
structure RgAt (w : World) (X : Nat) (fr ti : Int) (F : Value) (bits count : Int) : Prop where
  fr : w.heap[X]? = some (oneI fr)
  ti : w.heap[X + 1]? = some (oneI ti)
  pass : w.heap[X + 2]? = some (.cells #[F] 100 (0, 0))
  bits : w.heap[X + 3]? = some (oneI bits)
  count : w.heap[X + 4]? = some (oneI count)
set_option maxRecDepth 100000 in
set_option maxHeartbeats 2000000 in
theorem regroupC (fr ti : Int) (f : Fn) (cs ds : Array Value) (w : World) : Calls Tryz.prog 108 #[.int .i64 fr, .int .i64 ti, .func f cs ds] w fun e w' => e = .returned (.tuple #[fnAdd w.heap.size, fnLeft w.heap.size]) ∧ RgAt w' w.heap.size fr ti (.func f cs ds) 0 0 ∧ Gr w w' ∧ w'.heap.size = w.heap.size + 5 := by
  go_enter Tryz.func108, Tryz.ntmps108
  go_wp2_with fail
  go_ret2
  refine ⟨rfl, ⟨?_, ?_, ?_, ?_, ?_⟩, ?_, by simp⟩
  · exact ((((((Gr.refl _).alloc _).alloc _).alloc _).alloc _).block (by simp <;> omega)).trans (heap_new _ _ _ (by simp))
  · exact (((((Gr.refl _).alloc _).alloc _).alloc _).block (by simp <;> omega)).trans (heap_new _ _ _ (by simp))
  · exact ((((Gr.refl _).alloc _).alloc _).block (by simp <;> omega)).trans (heap_new _ _ _ (by simp))
  · exact (((Gr.refl _).alloc _).block (by simp <;> omega)).trans (heap_new _ _ _ (by simp))
  · exact ((Gr.refl _).block (by simp <;> omega)).trans (heap_new _ _ _ (by simp))
  · exact (((((Gr.refl w).alloc _).alloc _).alloc _).alloc _).alloc _
theorem RgAt.gr {w w' : World} {X : Nat} {fr ti : Int} {F : Value} {bits count : Int} (h : RgAt w X fr ti F bits count) (hg : Gr w w') : RgAt w' X fr ti F bits count :=
  ⟨(hg.block (Array.getElem?_eq_some_iff.1 h.fr).1).trans h.fr, (hg.block (Array.getElem?_eq_some_iff.1 h.ti).1).trans h.ti, (hg.block (Array.getElem?_eq_some_iff.1 h.pass).1).trans h.pass, (hg.block (Array.getElem?_eq_some_iff.1 h.bits).1).trans h.bits, (hg.block (Array.getElem?_eq_some_iff.1 h.count).1).trans h.count⟩
theorem oneI_facts {w : World} {b : Nat} {n : Int} (h : w.heap[b]? = some (oneI n)) : w.cell? ⟨b, 0, none⟩ = some (.int .i64 n) ∧ w.frozen? ⟨b, 0, none⟩ = false ∧ b < w.heap.size :=
  ⟨cell_block (cs := [.int .i64 n]) h 0, by unfold oneI at h; simp [World.frozen?, h], (Array.getElem?_eq_some_iff.1 h).1⟩
theorem oneI_set {w : World} {b : Nat} {n : Int} (h : w.heap[b]? = some (oneI n)) (m : Int) : (w.setCell ⟨b, 0, none⟩ (.int .i64 m)).heap[b]? = some (oneI m) := heap_setCell_same w b 0 _ _ _ h
theorem RgAt.setBits {w : World} {X : Nat} {fr ti : Int} {F : Value} {bits count : Int} (h : RgAt w X fr ti F bits count) (m : Int) : RgAt (w.setCell ⟨X + 3, 0, none⟩ (.int .i64 m)) X fr ti F m count :=
  ⟨(heap_setCell_other w ⟨X + 3, 0, none⟩ X _ (by show X ≠ X + 3; omega)).trans h.fr, (heap_setCell_other w ⟨X + 3, 0, none⟩ (X + 1) _ (by show X + 1 ≠ X + 3; omega)).trans h.ti, (heap_setCell_other w ⟨X + 3, 0, none⟩ (X + 2) _ (by show X + 2 ≠ X + 3; omega)).trans h.pass, oneI_set h.bits m, (heap_setCell_other w ⟨X + 3, 0, none⟩ (X + 4) _ (by show X + 4 ≠ X + 3; omega)).trans h.count⟩
theorem RgAt.setCount {w : World} {X : Nat} {fr ti : Int} {F : Value} {bits count : Int} (h : RgAt w X fr ti F bits count) (m : Int) : RgAt (w.setCell ⟨X + 4, 0, none⟩ (.int .i64 m)) X fr ti F bits m :=
  ⟨(heap_setCell_other w ⟨X + 4, 0, none⟩ X _ (by show X ≠ X + 4; omega)).trans h.fr, (heap_setCell_other w ⟨X + 4, 0, none⟩ (X + 1) _ (by show X + 1 ≠ X + 4; omega)).trans h.ti, (heap_setCell_other w ⟨X + 4, 0, none⟩ (X + 2) _ (by show X + 2 ≠ X + 4; omega)).trans h.pass, (heap_setCell_other w ⟨X + 4, 0, none⟩ (X + 3) _ (by show X + 3 ≠ X + 4; omega)).trans h.bits, oneI_set h.count m⟩
set_option maxRecDepth 100000 in
set_option maxHeartbeats 2000000 in
theorem leftC (X : Nat) (fr ti : Int) (F : Value) (bits count : Int) (w : World) (h : RgAt w X fr ti F bits count) : Calls Tryz.prog 140 #[ptr (X + 3), ptr (X + 4)] w fun e w' => e = .returned (.tuple #[.int .i64 bits, .int .i64 count]) ∧ Gr w w' := by
  obtain ⟨c1, _, z1⟩ := oneI_facts h.bits
  obtain ⟨c2, _, z2⟩ := oneI_facts h.count
  clear h
  unfold ptr
  go_enter Tryz.func140, Tryz.ntmps140
  go_wp2_with fail
  go_quiet (fail)
  go_wp2_with fail
  go_ret2
  exact ⟨rfl, (Gr.refl w).drewN _⟩
/-- What the groups are passed to: the function id, which captures one variable, at T; S tells of the groups that it has taken; the world w0 is the one ahead of it all. -/
structure Pass (ti : Nat) (X : Nat) (w0 : World) (id : FuncId) (T : Nat) (S : World → List Nat → Prop) : Prop where
  eg : ∀ args w, (callFunc id args).run Tryz.prog w = .ok (.enter id args) w
  set : ∀ W l k u, k = X + 3 ∨ k = X + 4 → S W l → S (W.setCell ⟨k, 0, none⟩ u) l
  gr : ∀ W W' l, S W l → Gr W W' → S W' l
  call : ∀ W l (g : Nat) fr b c, l.length ≤ 999000 → g < 2 ^ ti → S W l → RgAt W X fr ti (.func (.func id) #[] #[ptr T]) b c → Gr w0 W → Calls Tryz.prog id #[.int .i64 (g : Int), ptr T] W fun e W' => e = .returned (.tuple #[]) ∧ S W' (l ++ [g]) ∧ RgAt W' X fr ti (.func (.func id) #[] #[ptr T]) b c ∧ Gr w0 W'
theorem bits_and_nat (x y : Nat) (hx : x < 4294967296) (hy : y < 4294967296) : bits .and .i64 (x : Int) (y : Int) = ((x &&& y : Nat) : Int) := by
  have h1 : x &&& y ≤ x := Nat.and_le_left
  simp only [bits, BitVec.ofInt_natCast, BitVec.toNat_and, BitVec.toNat_ofNat]
  rw [show (2 : Nat) ^ IntKind.i64.bits = 18446744073709551616 by decide, Nat.mod_eq_of_lt (by omega), Nat.mod_eq_of_lt (by omega), IntKind.wrap_i64]
  omega
/-- The first k bits of a list, and the others, out of its value. -/
theorem val_split (cur : List Bool) (k c : Nat) (h : cur.length = c + k) : valB cur / 2 ^ c = valB (cur.take k) ∧ valB cur % 2 ^ c = valB (cur.drop k) := by
  have hd : (cur.drop k).length = c := by rw [List.length_drop]; omega
  have hv : valB cur = valB (cur.take k) * 2 ^ c + valB (cur.drop k) := by
    have := valB_app (cur.take k) (cur.drop k)
    rwa [List.take_append_drop, hd] at this
  have hlt : valB (cur.drop k) < 2 ^ c := by have := valB_lt (cur.drop k); rwa [hd] at this
  have hp : 0 < 2 ^ c := Nat.two_pow_pos c
  rw [hv]
  constructor
  · rw [Nat.mul_comm, Nat.mul_add_div hp, Nat.div_eq_of_lt hlt, Nat.add_zero]
  · rw [Nat.mul_comm, Nat.mul_add_mod, Nat.mod_eq_of_lt hlt]
def AtEnd (A : Act) (W : World) (e : Exit) (a : Act) (w : World) : Prop := match e with | .normal => a = A ∧ w = W | _ => False
theorem wp_to {P : Program} {c : Code} {Q' : Exit → Act → World → Prop} {a : Act} {w : World} (A : Act) (W : World) (h : c.wp P (AtEnd A W) a w) (hq : Q' .normal A W) : c.wp P Q' a w :=
  Code.wp_mono (fun e a w h => by cases e <;> first | exact h.elim | (obtain ⟨h2, h3⟩ := h; subst h2; subst h3; exact hq)) h
theorem bodyPost_endU {P : Program} {fn : Func} {Q : Ending → World → Prop} {t : Array Value} {w : World} {d : List Deferred} (hr : fn.results = #[]) (hd : d = []) (hR : Q (.returned (.tuple #[])) w) : bodyPost P fn Q .normal ⟨t, d⟩ w :=
  bodyPost_end (results_none hr _ _ _) hd hR
theorem or_fin86 : ∀ (i : Fin 64) (j : Fin 256), bits .or .i64 ((i.val : Int) * 256) (j.val : Int) = ((i.val * 256 + j.val : Nat) : Int) := by decide +kernel
theorem or_fin68 : ∀ (i : Fin 256) (j : Fin 64), bits .or .i64 ((i.val : Int) * 64) (j.val : Int) = ((i.val * 64 + j.val : Nat) : Int) := by decide +kernel
end Go.Proofs.YtcjacgjeiljfgaaGreatDoor

namespace Go.Proofs.YtcjacgjeiljfgaaGreatDoor
open Go.RowKit

/-- What add leaves. -/
def AddPost86 (X : Nat) (id : FuncId) (T : Nat) (S : World → List Nat → Prop) (w0 : World) (left : List Bool) (g : Nat) (l : List Nat) (e : Ending) (w' : World) : Prop :=
  e = .returned (.tuple #[]) ∧ RgAt w' X 8 6 (.func (.func id) #[] #[ptr T]) (valB (grp 6 (left ++ bitsK 8 g)).2 : Nat) ((grp 6 (left ++ bitsK 8 g)).2.length : Nat) ∧ S w' (l ++ (grp 6 (left ++ bitsK 8 g)).1) ∧ Gr w0 w'
set_option maxRecDepth 100000 in
set_option maxHeartbeats 4000000 in
theorem add86 (X : Nat) (id : FuncId) (T : Nat) (S : World → List Nat → Prop) (w0 : World) (hp : Pass 6 X w0 id T S) (hx : w0.heap.size ≤ X) (left : List Bool) (hl : left.length < 6) (g : Nat) (hg : g < 256) (l : List Nat) (hll : l.length ≤ 998000) (w : World)
    (hR : RgAt w X 8 6 (.func (.func id) #[] #[ptr T]) (valB left : Nat) (left.length : Nat)) (hS : S w l) (hG : Gr w0 w) :
    Calls Tryz.prog 139 #[.int .i64 (g : Int), ptr (X + 3), ptr X, ptr (X + 4), ptr (X + 1), ptr (X + 2)] w (AddPost86 X id T S w0 left g l) := by
  have hv1 : valB (left ++ bitsK 8 g) = valB left * 256 + g := by rw [valB_app, valB_bitsK 8 g hg, bitsK_len]
  have hlen1 : (left ++ bitsK 8 g).length = left.length + 8 := by rw [List.length_append, bitsK_len]
  have hbl : valB left < 64 := Nat.lt_of_lt_of_le (valB_lt left) (Nat.pow_le_pow_right (by decide) (show left.length ≤ 6 by omega))
  have hor : bits .or .i64 ((valB left : Int) * 256) (g : Int) = ((valB left * 256 + g : Nat) : Int) := or_fin86 ⟨valB left, hbl⟩ ⟨g, hg⟩
  have hwr : IntKind.i64.wrap ((valB left : Int) * 256) = (valB left : Int) * 256 := by rw [IntKind.wrap_i64]; omega
  have HR := Lib.hid hR; have HS := Lib.hid hS; have HG := Lib.hid hG; have HP := Lib.hid hp
  have HV := Lib.hid hv1; have HLN := Lib.hid hlen1
  obtain ⟨a0, _, b0⟩ := oneI_facts hR.fr
  obtain ⟨a1, _, b1⟩ := oneI_facts hR.ti
  obtain ⟨a3, f3, b3⟩ := oneI_facts hR.bits
  obtain ⟨a4, f4, b4⟩ := oneI_facts hR.count
  generalize valB left = B at *
  generalize left.length = C at *
  clear hv1 hlen1 hR hS hG hp
  unfold ptr
  go_enter Tryz.func139, Tryz.ntmps139
  go_wp2_with fail
  have hw2 : IntKind.i64.wrap ((C : Int) + 8) = (C : Int) + 8 := by rw [IntKind.wrap_i64]; omega
  apply wp_to (A := { tmps := #[.int .i64 (g : Int), .pointer (some ⟨X + 3, 0, none⟩), .pointer (some ⟨X, 0, none⟩), .pointer (some ⟨X + 4, 0, none⟩), .pointer (some ⟨X + 1, 0, none⟩), .pointer (some ⟨X + 2, 0, none⟩), undef, .int .i64 (B : Int), .int .i64 8, .int .i64 ((B : Int) * 256), .int .i64 (g : Int), .int .i64 ((B : Int) * 256 + (g : Int)), .int .i64 (C : Int), .int .i64 8, .int .i64 ((C : Int) + 8), undef, undef, undef, undef, undef, undef, undef, undef, undef, undef, undef, undef, undef, undef, undef, undef], defers := [] }) (W := ((w.setCell ⟨X + 3, 0, none⟩ (.int .i64 ((B : Int) * 256 + (g : Int)))).setCell ⟨X + 4, 0, none⟩ (.int .i64 ((C : Int) + 8))).drew)
  case h =>
    go_region_law (fail)
    all_goals exact ⟨rfl, rfl⟩
  have R1 := ((HR.out.setBits ((B : Int) * 256 + (g : Int))).setCount ((C : Int) + 8)).gr (Gr.refl _).drew
  have S1 := Lib.hid (HP.out.gr _ _ _ (HP.out.set _ _ (X + 4) (.int .i64 ((C : Int) + 8)) (.inr rfl) (HP.out.set _ _ (X + 3) (.int .i64 ((B : Int) * 256 + (g : Int))) (.inl rfl) HS.out)) (Gr.refl _).drew)
  have G1 := Lib.hid (((HG.out.setOwn (b := X + 3) (o := 0) (by omega) (.int .i64 ((B : Int) * 256 + (g : Int)))).setOwn (b := X + 4) (o := 0) (by omega) (.int .i64 ((C : Int) + 8))).drew)
  generalize ((w.setCell ⟨X + 3, 0, none⟩ (.int .i64 ((B : Int) * 256 + (g : Int)))).setCell ⟨X + 4, 0, none⟩ (.int .i64 ((C : Int) + 8))).drew = W1 at *
  have eB : (B : Int) * 256 + (g : Int) = ((valB (left ++ bitsK 8 g) : Nat) : Int) := by rw [HV.out]; omega
  have eC : (C : Int) + 8 = (((left ++ bitsK 8 g).length : Nat) : Int) := by rw [HLN.out]; omega
  have hl13 : (left ++ bitsK 8 g).length ≤ 13 := by rw [HLN.out]; omega
  rw [eB, eC] at R1
  have HR1 := Lib.hid R1
  obtain ⟨cur0, hcur0⟩ : ∃ c, left ++ bitsK 8 g = c := ⟨_, rfl⟩
  rw [hcur0] at HR1 hl13
  have HCUR := Lib.hid hcur0
  clear R1 eB eC hor hwr a0 b0 a1 b1 a3 f3 b3 a4 f4 b4 HR HS HG hbl hcur0 HV HLN
  go_wp2_with fail
  go_loopw [15, 16, 17, 18, 19, 20, 21, 22, 23, 24, 25, 26, 27, 28, 29, 30] (fun _ _ _ _ _ _ _ _ _ _ _ _ _ _ _ _ wr => ∃ cur pre, cur.length + pre.length ≤ 13 ∧ Hid (grp 6 cur0 = (pre ++ (grp 6 cur).1, (grp 6 cur).2)) ∧ Hid (RgAt wr X 8 6 (.func (.func id) #[] #[ptr T]) (valB cur : Nat) (cur.length : Nat)) ∧ Hid (S wr (l ++ pre)) ∧ Hid (Gr w0 wr)) (fun _ _ _ _ _ _ _ _ _ _ _ _ _ _ _ _ wr => (intOf ((wr.cell? ⟨X + 4, 0, none⟩).getD undef)).toNat)
  case atStart => exact ⟨cur0, [], by simpa using hl13, by show _ = _; simp, HR1.out, by show _; rw [List.append_nil]; exact S1.out, G1.out⟩
  case round =>
    obtain ⟨cur, pre, hlp, hg1, hR, hS, hG⟩ := hrel
    have hlen : cur.length ≤ 13 := by omega
    have HLP := Lib.hid hlp
    clear hlp
    obtain ⟨a0, -, b0⟩ := oneI_facts hR.out.fr
    obtain ⟨a1, -, b1⟩ := oneI_facts hR.out.ti
    obtain ⟨a3, f3, b3⟩ := oneI_facts hR.out.bits
    obtain ⟨a4, f4, b4⟩ := oneI_facts hR.out.count
    by_cases hlt : cur.length < 6
    · have e := grp_short hlt
      have hlt1 : ¬ (6 : Int) ≤ (cur.length : Int) := by omega
      have HE := Lib.hid e
      clear e
      go_wp2_with fail
      show bodyPost Tryz.prog Tryz.f139 (AddPost86 X id T S w0 left g l) .normal _ _
      refine bodyPost_endU (fn := Tryz.f139) rfl rfl ?_
      refine ⟨rfl, ?_, ?_, hG.out⟩
      · rw [HCUR.out, hg1.out, HE.out]; exact hR.out
      · rw [HCUR.out, hg1.out, HE.out]; show S wr (l ++ (pre ++ [])); rw [List.append_nil]; exact hS.out
    · obtain ⟨c, hc⟩ : ∃ c, cur.length = c + 6 := ⟨cur.length - 6, by omega⟩
      obtain ⟨hs1, hs2⟩ := val_split cur 6 c hc
      have hc7 : c ≤ 13 - 6 := by omega
      have hstep := grp_step (k := 6) (by decide) (l := cur) (by omega)
      have HST : Hid (grp 6 cur0 = ((pre ++ [valB (cur.take 6)]) ++ (grp 6 (cur.drop 6)).1, (grp 6 (cur.drop 6)).2)) := by
        show _ = _; rw [hg1.out, hstep]; simp
      have hdl : (cur.drop 6).length = c := by rw [List.length_drop]; omega
      have HDL := Lib.hid hdl
      have hq : valB (cur.take 6) < 2 ^ 6 := by have := valB_lt (cur.take 6); rwa [List.length_take, Nat.min_eq_left (by omega)] at this
      have hb13 : valB cur < 8192 := Nat.lt_of_lt_of_le (valB_lt cur) (Nat.le_trans (Nat.pow_le_pow_right (by decide) hlen) (by decide))
      have hc2 : 2 ^ c ≤ 128 := Nat.le_trans (Nat.pow_le_pow_right (by decide) (show c ≤ 7 by omega)) (by decide)
      have hc1 : 1 ≤ 2 ^ c := Nat.two_pow_pos c
      have hand0 : bits .and .i64 ((valB cur : Nat) : Int) ((2 ^ c - 1 : Nat) : Int) = ((valB (cur.drop 6) : Nat) : Int) := by
        rw [bits_and_nat _ _ (by omega) (by omega), Nat.and_two_pow_sub_one_eq_mod, hs2]
      rw [hc] at a4
      have HA4 := Lib.hid a4
      have hgc : (6 : Int) ≤ (c : Int) + 6 := by omega
      have HC := Lib.hid hc
      generalize hQ : valB (cur.take 6) = q at *
      generalize hD : cur.drop 6 = rest at *
      have hR2 := hR.out.setCount (c : Int)
      have hS2 := Lib.hid (HP.out.set _ _ (X + 4) (.int .i64 (c : Int)) (.inr rfl) hS.out)
      have hG2 := Lib.hid (hG.out.setOwn (b := X + 4) (o := 0) (by omega) (.int .i64 (c : Int)))
      clear hstep hdl hs2 hg1 hS hG hQ hD hR hlt hc
      generalize valB cur = b at *
      go_wp2_with fail
      generalize wr.setCell ⟨X + 4, 0, none⟩ (.int .i64 (c : Int)) = W2 at *
      clear a0 a1 a3 a4 f3 f4 b0 b1 b3 b4
      obtain ⟨a3, f3, b3⟩ := oneI_facts hR2.bits
      obtain ⟨a4, f4, b4⟩ := oneI_facts hR2.count
      have a2 : W2.cell? ⟨X + 2, 0, none⟩ = some (.func (.func id) #[] #[ptr T]) := cell_block (cs := [.func (.func id) #[] #[ptr T]]) hR2.pass 0
      have b2 := (Array.getElem?_eq_some_iff.1 hR2.pass).1
      have hdiv : (b : Int) / 2 ^ c = (q : Int) := by rw [← hs1]; simp
      have hR3 := Lib.hid hR2
      clear hR2
      refine wp_region_tail 4 (fun u => ∃ p : LD, u = lw W2 p) (by kernel_rfl) (by kernel_rfl) (cl_drew W2) ?_
      simp only [List.take_succ_cons, List.take_zero, List.drop_succ_cons, List.drop_zero]
      repeat (go_big_quiet_step (fail))
      refine wpQuiet_nil ?_
      rintro _ ⟨p, rfl⟩
      have gU := (lay_lw W2 p).1
      have HRU := Lib.hid (hR3.out.gr gU)
      have HSU := Lib.hid (HP.out.gr _ _ _ hS2.out gU)
      have HGU := Lib.hid (hG2.out.trans gU)
      have eg := HP.out.eg
      clear hR3 hS2 hG2 gU a2 a3 a4 b2 b3 b4 f3 f4 hdiv
      generalize lw W2 p = U at *
      go_wp2_with fail
      refine (HP.out.call U (l ++ pre) q 8 b c (by have := HLP.out; rw [List.length_append]; omega) hq HSU.out HRU.out HGU.out).mono ?_
      rintro e W3 ⟨rfl, hs3, hr3, hg3⟩
      have HS3 := Lib.hid hs3
      have HG3 := Lib.hid hg3
      obtain ⟨a3, f3, b3⟩ := oneI_facts hr3.bits
      obtain ⟨a4, f4, b4⟩ := oneI_facts hr3.count
      have HR3 := Lib.hid hr3
      clear hs3 hr3 hg3 HSU HRU HGU eg
      have e2 : ((2 ^ c - 1 : Nat) : Int) = (2 : Int) ^ c - 1 := by rw [Int.natCast_sub hc1]; simp
      have e3 : ((2 ^ c : Nat) : Int) = (2 : Int) ^ c := by simp
      have hw1 : IntKind.i64.wrap ((2 : Int) ^ c) = (2 : Int) ^ c := by rw [← e3, IntKind.wrap_i64]; omega
      have hw3 : IntKind.i64.wrap ((2 : Int) ^ c - 1) = (2 : Int) ^ c - 1 := by rw [← e2, IntKind.wrap_i64]; omega
      rw [e2] at hand0
      clear e2 e3
      go_wp2_with fail
      refine wp_region_tail 5 (fun u => ∃ p : LD, u = lw W3 p) (by kernel_rfl) (by kernel_rfl) (cl_drew W3) ?_
      simp only [List.take_succ_cons, List.take_zero, List.drop_succ_cons, List.drop_zero]
      repeat (go_big_quiet_step (fail))
      refine wpQuiet_nil ?_
      rintro _ ⟨p2, rfl⟩
      have gU := (lay_lw W3 p2).1
      have hrU := HR3.out.gr gU
      obtain ⟨d3, k3, e3⟩ := oneI_facts hrU.bits
      have HSU := Lib.hid (HP.out.set _ _ (X + 3) (.int .i64 ((valB rest : Nat) : Int)) (.inl rfl) (HP.out.gr _ _ _ HS3.out gU))
      have hrS := hrU.setBits ((valB rest : Nat) : Int)
      have HGU := Lib.hid ((HG3.out.trans gU).setOwn (b := X + 3) (o := 0) (by omega) (.int .i64 ((valB rest : Nat) : Int)))
      have HM := Lib.hid (oneI_facts hrS.count).1
      have HRU := Lib.hid hrS
      clear a3 a4 f3 f4 b3 b4 HR3 HS3 HG3 hand0 hw1 hw3 gU hrU hrS
      generalize lw W3 p2 = U2 at *
      go_wp2_with fail
      go_roundw
      case rel => exact ⟨rest, pre ++ [q], by have := HLP.out; rw [HC.out] at this; rw [HDL.out, List.length_append, List.length_singleton]; omega, HST.out, by show RgAt _ _ _ _ _ _ _; rw [HDL.out]; exact HRU.out, by show S _ _; rw [← List.append_assoc]; exact HSU.out, HGU.out⟩
      case measure => rw [HM.out, HA4.out]; simp [intOf]; omega
end Go.Proofs.YtcjacgjeiljfgaaGreatDoor

namespace Go.Proofs.YtcjacgjeiljfgaaGreatDoor
open Go.RowKit

/-- What add leaves. -/
def AddPost68 (X : Nat) (id : FuncId) (T : Nat) (S : World → List Nat → Prop) (w0 : World) (left : List Bool) (g : Nat) (l : List Nat) (e : Ending) (w' : World) : Prop :=
  e = .returned (.tuple #[]) ∧ RgAt w' X 6 8 (.func (.func id) #[] #[ptr T]) (valB (grp 8 (left ++ bitsK 6 g)).2 : Nat) ((grp 8 (left ++ bitsK 6 g)).2.length : Nat) ∧ S w' (l ++ (grp 8 (left ++ bitsK 6 g)).1) ∧ Gr w0 w'
set_option maxRecDepth 100000 in
set_option maxHeartbeats 4000000 in
theorem add68 (X : Nat) (id : FuncId) (T : Nat) (S : World → List Nat → Prop) (w0 : World) (hp : Pass 8 X w0 id T S) (hx : w0.heap.size ≤ X) (left : List Bool) (hl : left.length < 8) (g : Nat) (hg : g < 64) (l : List Nat) (hll : l.length ≤ 998000) (w : World)
    (hR : RgAt w X 6 8 (.func (.func id) #[] #[ptr T]) (valB left : Nat) (left.length : Nat)) (hS : S w l) (hG : Gr w0 w) :
    Calls Tryz.prog 139 #[.int .i64 (g : Int), ptr (X + 3), ptr X, ptr (X + 4), ptr (X + 1), ptr (X + 2)] w (AddPost68 X id T S w0 left g l) := by
  have hv1 : valB (left ++ bitsK 6 g) = valB left * 64 + g := by rw [valB_app, valB_bitsK 6 g hg, bitsK_len]
  have hlen1 : (left ++ bitsK 6 g).length = left.length + 6 := by rw [List.length_append, bitsK_len]
  have hbl : valB left < 256 := Nat.lt_of_lt_of_le (valB_lt left) (Nat.pow_le_pow_right (by decide) (show left.length ≤ 8 by omega))
  have hor : bits .or .i64 ((valB left : Int) * 64) (g : Int) = ((valB left * 64 + g : Nat) : Int) := or_fin68 ⟨valB left, hbl⟩ ⟨g, hg⟩
  have hwr : IntKind.i64.wrap ((valB left : Int) * 64) = (valB left : Int) * 64 := by rw [IntKind.wrap_i64]; omega
  have HR := Lib.hid hR; have HS := Lib.hid hS; have HG := Lib.hid hG; have HP := Lib.hid hp
  have HV := Lib.hid hv1; have HLN := Lib.hid hlen1
  obtain ⟨a0, _, b0⟩ := oneI_facts hR.fr
  obtain ⟨a1, _, b1⟩ := oneI_facts hR.ti
  obtain ⟨a3, f3, b3⟩ := oneI_facts hR.bits
  obtain ⟨a4, f4, b4⟩ := oneI_facts hR.count
  generalize valB left = B at *
  generalize left.length = C at *
  clear hv1 hlen1 hR hS hG hp
  unfold ptr
  go_enter Tryz.func139, Tryz.ntmps139
  go_wp2_with fail
  have hw2 : IntKind.i64.wrap ((C : Int) + 6) = (C : Int) + 6 := by rw [IntKind.wrap_i64]; omega
  apply wp_to (A := { tmps := #[.int .i64 (g : Int), .pointer (some ⟨X + 3, 0, none⟩), .pointer (some ⟨X, 0, none⟩), .pointer (some ⟨X + 4, 0, none⟩), .pointer (some ⟨X + 1, 0, none⟩), .pointer (some ⟨X + 2, 0, none⟩), undef, .int .i64 (B : Int), .int .i64 6, .int .i64 ((B : Int) * 64), .int .i64 (g : Int), .int .i64 ((B : Int) * 64 + (g : Int)), .int .i64 (C : Int), .int .i64 6, .int .i64 ((C : Int) + 6), undef, undef, undef, undef, undef, undef, undef, undef, undef, undef, undef, undef, undef, undef, undef, undef], defers := [] }) (W := ((w.setCell ⟨X + 3, 0, none⟩ (.int .i64 ((B : Int) * 64 + (g : Int)))).setCell ⟨X + 4, 0, none⟩ (.int .i64 ((C : Int) + 6))).drew)
  case h =>
    go_region_law (fail)
    all_goals exact ⟨rfl, rfl⟩
  have R1 := ((HR.out.setBits ((B : Int) * 64 + (g : Int))).setCount ((C : Int) + 6)).gr (Gr.refl _).drew
  have S1 := Lib.hid (HP.out.gr _ _ _ (HP.out.set _ _ (X + 4) (.int .i64 ((C : Int) + 6)) (.inr rfl) (HP.out.set _ _ (X + 3) (.int .i64 ((B : Int) * 64 + (g : Int))) (.inl rfl) HS.out)) (Gr.refl _).drew)
  have G1 := Lib.hid (((HG.out.setOwn (b := X + 3) (o := 0) (by omega) (.int .i64 ((B : Int) * 64 + (g : Int)))).setOwn (b := X + 4) (o := 0) (by omega) (.int .i64 ((C : Int) + 6))).drew)
  generalize ((w.setCell ⟨X + 3, 0, none⟩ (.int .i64 ((B : Int) * 64 + (g : Int)))).setCell ⟨X + 4, 0, none⟩ (.int .i64 ((C : Int) + 6))).drew = W1 at *
  have eB : (B : Int) * 64 + (g : Int) = ((valB (left ++ bitsK 6 g) : Nat) : Int) := by rw [HV.out]; omega
  have eC : (C : Int) + 6 = (((left ++ bitsK 6 g).length : Nat) : Int) := by rw [HLN.out]; omega
  have hl13 : (left ++ bitsK 6 g).length ≤ 13 := by rw [HLN.out]; omega
  rw [eB, eC] at R1
  have HR1 := Lib.hid R1
  obtain ⟨cur0, hcur0⟩ : ∃ c, left ++ bitsK 6 g = c := ⟨_, rfl⟩
  rw [hcur0] at HR1 hl13
  have HCUR := Lib.hid hcur0
  clear R1 eB eC hor hwr a0 b0 a1 b1 a3 f3 b3 a4 f4 b4 HR HS HG hbl hcur0 HV HLN
  go_wp2_with fail
  go_loopw [15, 16, 17, 18, 19, 20, 21, 22, 23, 24, 25, 26, 27, 28, 29, 30] (fun _ _ _ _ _ _ _ _ _ _ _ _ _ _ _ _ wr => ∃ cur pre, cur.length + pre.length ≤ 13 ∧ Hid (grp 8 cur0 = (pre ++ (grp 8 cur).1, (grp 8 cur).2)) ∧ Hid (RgAt wr X 6 8 (.func (.func id) #[] #[ptr T]) (valB cur : Nat) (cur.length : Nat)) ∧ Hid (S wr (l ++ pre)) ∧ Hid (Gr w0 wr)) (fun _ _ _ _ _ _ _ _ _ _ _ _ _ _ _ _ wr => (intOf ((wr.cell? ⟨X + 4, 0, none⟩).getD undef)).toNat)
  case atStart => exact ⟨cur0, [], by simpa using hl13, by show _ = _; simp, HR1.out, by show _; rw [List.append_nil]; exact S1.out, G1.out⟩
  case round =>
    obtain ⟨cur, pre, hlp, hg1, hR, hS, hG⟩ := hrel
    have hlen : cur.length ≤ 13 := by omega
    have HLP := Lib.hid hlp
    clear hlp
    obtain ⟨a0, -, b0⟩ := oneI_facts hR.out.fr
    obtain ⟨a1, -, b1⟩ := oneI_facts hR.out.ti
    obtain ⟨a3, f3, b3⟩ := oneI_facts hR.out.bits
    obtain ⟨a4, f4, b4⟩ := oneI_facts hR.out.count
    by_cases hlt : cur.length < 8
    · have e := grp_short hlt
      have hlt1 : ¬ (8 : Int) ≤ (cur.length : Int) := by omega
      have HE := Lib.hid e
      clear e
      go_wp2_with fail
      show bodyPost Tryz.prog Tryz.f139 (AddPost68 X id T S w0 left g l) .normal _ _
      refine bodyPost_endU (fn := Tryz.f139) rfl rfl ?_
      refine ⟨rfl, ?_, ?_, hG.out⟩
      · rw [HCUR.out, hg1.out, HE.out]; exact hR.out
      · rw [HCUR.out, hg1.out, HE.out]; show S wr (l ++ (pre ++ [])); rw [List.append_nil]; exact hS.out
    · obtain ⟨c, hc⟩ : ∃ c, cur.length = c + 8 := ⟨cur.length - 8, by omega⟩
      obtain ⟨hs1, hs2⟩ := val_split cur 8 c hc
      have hc7 : c ≤ 13 - 8 := by omega
      have hstep := grp_step (k := 8) (by decide) (l := cur) (by omega)
      have HST : Hid (grp 8 cur0 = ((pre ++ [valB (cur.take 8)]) ++ (grp 8 (cur.drop 8)).1, (grp 8 (cur.drop 8)).2)) := by
        show _ = _; rw [hg1.out, hstep]; simp
      have hdl : (cur.drop 8).length = c := by rw [List.length_drop]; omega
      have HDL := Lib.hid hdl
      have hq : valB (cur.take 8) < 2 ^ 8 := by have := valB_lt (cur.take 8); rwa [List.length_take, Nat.min_eq_left (by omega)] at this
      have hb13 : valB cur < 8192 := Nat.lt_of_lt_of_le (valB_lt cur) (Nat.le_trans (Nat.pow_le_pow_right (by decide) hlen) (by decide))
      have hc2 : 2 ^ c ≤ 128 := Nat.le_trans (Nat.pow_le_pow_right (by decide) (show c ≤ 7 by omega)) (by decide)
      have hc1 : 1 ≤ 2 ^ c := Nat.two_pow_pos c
      have hand0 : bits .and .i64 ((valB cur : Nat) : Int) ((2 ^ c - 1 : Nat) : Int) = ((valB (cur.drop 8) : Nat) : Int) := by
        rw [bits_and_nat _ _ (by omega) (by omega), Nat.and_two_pow_sub_one_eq_mod, hs2]
      rw [hc] at a4
      have HA4 := Lib.hid a4
      have hgc : (8 : Int) ≤ (c : Int) + 8 := by omega
      have HC := Lib.hid hc
      generalize hQ : valB (cur.take 8) = q at *
      generalize hD : cur.drop 8 = rest at *
      have hR2 := hR.out.setCount (c : Int)
      have hS2 := Lib.hid (HP.out.set _ _ (X + 4) (.int .i64 (c : Int)) (.inr rfl) hS.out)
      have hG2 := Lib.hid (hG.out.setOwn (b := X + 4) (o := 0) (by omega) (.int .i64 (c : Int)))
      clear hstep hdl hs2 hg1 hS hG hQ hD hR hlt hc
      generalize valB cur = b at *
      go_wp2_with fail
      generalize wr.setCell ⟨X + 4, 0, none⟩ (.int .i64 (c : Int)) = W2 at *
      clear a0 a1 a3 a4 f3 f4 b0 b1 b3 b4
      obtain ⟨a3, f3, b3⟩ := oneI_facts hR2.bits
      obtain ⟨a4, f4, b4⟩ := oneI_facts hR2.count
      have a2 : W2.cell? ⟨X + 2, 0, none⟩ = some (.func (.func id) #[] #[ptr T]) := cell_block (cs := [.func (.func id) #[] #[ptr T]]) hR2.pass 0
      have b2 := (Array.getElem?_eq_some_iff.1 hR2.pass).1
      have hdiv : (b : Int) / 2 ^ c = (q : Int) := by rw [← hs1]; simp
      have hR3 := Lib.hid hR2
      clear hR2
      refine wp_region_tail 4 (fun u => ∃ p : LD, u = lw W2 p) (by kernel_rfl) (by kernel_rfl) (cl_drew W2) ?_
      simp only [List.take_succ_cons, List.take_zero, List.drop_succ_cons, List.drop_zero]
      repeat (go_big_quiet_step (fail))
      refine wpQuiet_nil ?_
      rintro _ ⟨p, rfl⟩
      have gU := (lay_lw W2 p).1
      have HRU := Lib.hid (hR3.out.gr gU)
      have HSU := Lib.hid (HP.out.gr _ _ _ hS2.out gU)
      have HGU := Lib.hid (hG2.out.trans gU)
      have eg := HP.out.eg
      clear hR3 hS2 hG2 gU a2 a3 a4 b2 b3 b4 f3 f4 hdiv
      generalize lw W2 p = U at *
      go_wp2_with fail
      refine (HP.out.call U (l ++ pre) q 6 b c (by have := HLP.out; rw [List.length_append]; omega) hq HSU.out HRU.out HGU.out).mono ?_
      rintro e W3 ⟨rfl, hs3, hr3, hg3⟩
      have HS3 := Lib.hid hs3
      have HG3 := Lib.hid hg3
      obtain ⟨a3, f3, b3⟩ := oneI_facts hr3.bits
      obtain ⟨a4, f4, b4⟩ := oneI_facts hr3.count
      have HR3 := Lib.hid hr3
      clear hs3 hr3 hg3 HSU HRU HGU eg
      have e2 : ((2 ^ c - 1 : Nat) : Int) = (2 : Int) ^ c - 1 := by rw [Int.natCast_sub hc1]; simp
      have e3 : ((2 ^ c : Nat) : Int) = (2 : Int) ^ c := by simp
      have hw1 : IntKind.i64.wrap ((2 : Int) ^ c) = (2 : Int) ^ c := by rw [← e3, IntKind.wrap_i64]; omega
      have hw3 : IntKind.i64.wrap ((2 : Int) ^ c - 1) = (2 : Int) ^ c - 1 := by rw [← e2, IntKind.wrap_i64]; omega
      rw [e2] at hand0
      clear e2 e3
      go_wp2_with fail
      refine wp_region_tail 5 (fun u => ∃ p : LD, u = lw W3 p) (by kernel_rfl) (by kernel_rfl) (cl_drew W3) ?_
      simp only [List.take_succ_cons, List.take_zero, List.drop_succ_cons, List.drop_zero]
      repeat (go_big_quiet_step (fail))
      refine wpQuiet_nil ?_
      rintro _ ⟨p2, rfl⟩
      have gU := (lay_lw W3 p2).1
      have hrU := HR3.out.gr gU
      obtain ⟨d3, k3, e3⟩ := oneI_facts hrU.bits
      have HSU := Lib.hid (HP.out.set _ _ (X + 3) (.int .i64 ((valB rest : Nat) : Int)) (.inl rfl) (HP.out.gr _ _ _ HS3.out gU))
      have hrS := hrU.setBits ((valB rest : Nat) : Int)
      have HGU := Lib.hid ((HG3.out.trans gU).setOwn (b := X + 3) (o := 0) (by omega) (.int .i64 ((valB rest : Nat) : Int)))
      have HM := Lib.hid (oneI_facts hrS.count).1
      have HRU := Lib.hid hrS
      clear a3 a4 f3 f4 b3 b4 HR3 HS3 HG3 hand0 hw1 hw3 gU hrU hrS
      generalize lw W3 p2 = U2 at *
      go_wp2_with fail
      go_roundw
      case rel => exact ⟨rest, pre ++ [q], by have := HLP.out; rw [HC.out] at this; rw [HDL.out, List.length_append, List.length_singleton]; omega, HST.out, by show RgAt _ _ _ _ _ _ _; rw [HDL.out]; exact HRU.out, by show S _ _; rw [← List.append_assoc]; exact HSU.out, HGU.out⟩
      case measure => rw [HM.out, HA4.out]; simp [intOf]; omega
end Go.Proofs.YtcjacgjeiljfgaaGreatDoor

namespace Go.Proofs.YtcjacgjeiljfgaaGreatDoor
open Go.RowKit

/-- The table of characters. -/
def Alph (w : World) : Prop := ∀ i, i < 64 → w.cell? ⟨0, i, none⟩ = some (cU (b64C i))
theorem Alph.lt {w : World} (h : Alph w) : 0 < w.heap.size := World.block_lt_of_cell? w _ (h 0 (by decide))
theorem Alph.gr {w w' : World} (h : Alph w) (hg : Gr w w') : Alph w' := fun i hi => (hg.cell h.lt).trans (h i hi)
theorem OwnU.ne {w : World} {base : Nat} {v : Value} {l : List UInt8} (h : OwnU w base v l) {k : Nat} {cs : Array Value} {t : TypeId} {fr : Nat × Nat} (hk : w.heap[k]? = some (.cells cs t fr)) (ht : t ≠ 5) : v.ownBlock ≠ some k := by
  obtain ⟨_, h2⟩ := h
  rcases h2 with ⟨rfl, _⟩ | ⟨g, cap, cur, rfl, _, hh, _⟩
  · simp [Value.ownBlock]
  · intro e
    have e' : g = k := by simpa [Value.ownBlock] using e
    rw [e', hk] at hh
    simp only [Option.some.injEq, Obj.cells.injEq] at hh
    exact ht hh.2.1
theorem OwnU.set {w : World} {base : Nat} {v : Value} {l : List UInt8} (h : OwnU w base v l) (k o : Nat) (u : Value) (hk : v.ownBlock ≠ some k) : OwnU (w.setCell ⟨k, o, none⟩ u) base v l :=
  World.ownsRow.kept h (grown_set w k o u) (.inr hk)
/-- The text that is collected: at T, the bytes F of the groups. -/
def TxS (X T base : Nat) (F : Nat → UInt8) (W : World) (gs : List Nat) : Prop := ∃ v, W.heap[T]? = some (.cells #[v] 93 (0, 0)) ∧ OwnU W base v (gs.map F) ∧ v.ownBlock ≠ some (X + 3) ∧ v.ownBlock ≠ some (X + 4)
theorem TxS.set {X T base : Nat} {F : Nat → UInt8} (hT : T < X) (W : World) (l : List Nat) (k : Nat) (u : Value) (hk : k = X + 3 ∨ k = X + 4) (h : TxS X T base F W l) : TxS X T base F (W.setCell ⟨k, 0, none⟩ u) l := by
  obtain ⟨v, h1, h2, h3, h4⟩ := h
  exact ⟨v, (heap_setCell_other W ⟨k, 0, none⟩ T u (by show T ≠ k; omega)).trans h1, h2.set k 0 u (by rcases hk with rfl | rfl; exact h3; exact h4), h3, h4⟩
theorem TxS.gr {X T base : Nat} {F : Nat → UInt8} (W W' : World) (l : List Nat) (h : TxS X T base F W l) (hg : Gr W W') : TxS X T base F W' l := by
  obtain ⟨v, h1, h2, h3, h4⟩ := h
  exact ⟨v, (hg.block (Array.getElem?_eq_some_iff.1 h1).1).trans h1, h2.gr hg, h3, h4⟩
theorem RgAt.grown {w w' : World} {X : Nat} {fr ti : Int} {F : Value} {bits count : Int} {row : Option Nat} (h : RgAt w X fr ti F bits count) (hg : w.grownBy w' row) (hr : ∀ k, row = some k → k < X ∨ X + 4 < k) : RgAt w' X fr ti F bits count :=
  ⟨grown_block hg h.fr (fun e => by have := hr _ e; omega), grown_block hg h.ti (fun e => by have := hr _ e; omega), grown_block hg h.pass (fun e => by have := hr _ e; omega), grown_block hg h.bits (fun e => by have := hr _ e; omega), grown_block hg h.count (fun e => by have := hr _ e; omega)⟩
/-- A slice of bytes lies at none of the five variables. -/
theorem RgAt.away {w : World} {X : Nat} {fr ti : Int} {F : Value} {bits count : Int} (h : RgAt w X fr ti F bits count) {base : Nat} {v : Value} {l : List UInt8} (ho : OwnU w base v l) : ∀ k, v.ownBlock = some k → k < X ∨ X + 4 < k := fun k hk => by
  have h0 := ho.ne h.fr (by decide)
  have h1 := ho.ne h.ti (by decide)
  have h2 := ho.ne h.pass (by decide)
  have h3 := ho.ne h.bits (by decide)
  have h4 := ho.ne h.count (by decide)
  rw [hk] at h0 h1 h2 h3 h4
  simp only [ne_eq, Option.some.injEq] at h0 h1 h2 h3 h4
  omega
set_option maxRecDepth 100000 in
set_option maxHeartbeats 4000000 in
theorem enc1C (X T base : Nat) (w0 : World) (hT : T < X) (hb0 : w0.heap.size ≤ base) (hbT : base ≤ T) (hA0 : Alph w0) (W : World) (l : List Nat) (g : Nat) (fr b c : Int) (hll : l.length ≤ 999000) (hg : g < 64) (hS : TxS X T base b64C W l) (hR : RgAt W X fr 6 (.func (.func 109) #[] #[ptr T]) b c) (hG : Gr w0 W) :
    Calls Tryz.prog 109 #[.int .i64 (g : Int), ptr T] W fun e W' => e = .returned (.tuple #[]) ∧ TxS X T base b64C W' (l ++ [g]) ∧ RgAt W' X fr 6 (.func (.func 109) #[] #[ptr T]) b c ∧ Gr w0 W' := by
  obtain ⟨v, h1, h2, h3, h4⟩ := hS
  have hc : W.cell? ⟨T, 0, none⟩ = some v := cell_block (cs := [v]) h1 0
  have hf := free_block (cs := [v]) h1 0
  have hz := (Array.getElem?_eq_some_iff.1 h1).1
  have hal := hA0.gr hG g hg
  have hza := (hA0.gr hG).lt
  have hg1 : (g : Int) < 64 := by omega
  unfold cU at hal
  unfold ptr
  go_enter Tryz.func109, Tryz.ntmps109
  go_wp2_with fail
  have hvT : v.ownBlock ≠ some T := h2.ne h1 (by decide)
  have H1 := Lib.hid h1; have H2 := Lib.hid h2; have HR := Lib.hid hR; have HG := Lib.hid hG; have HGG := Lib.hid hG.size
  have HV : Hid (∀ k, v.ownBlock = some k → k < X ∨ X + 4 < k) := hR.away h2
  clear h1 h2 hR hG h3 h4
  obtain ⟨d, hd⟩ : ∃ d, b64C g = d := ⟨_, rfl⟩
  rw [hd] at hal
  have HD := Lib.hid hd
  clear hd
  apply wp_toR (R := fun x n W' => Hid (W'.heap[T]? = some (.cells #[.slice x (l.length + 1) n] 93 (0, 0))) ∧ Hid (OwnU W' base (.slice x (l.length + 1) n) (l.map b64C ++ [d])) ∧ Hid (RgAt W' X fr 6 (.func (.func 109) #[] #[ptr T]) b c) ∧ Hid (Gr w0 W'))
  case h =>
    go_region_law (first | (refine step_append_u8 rfl 8 rfl (.tmp 3) (.tmp 7) rfl base v (l.map b64C) (by simp [Act.eval]) (H2.out.gr ((Gr.refl W).drew.alloc _)) (.slice (some ⟨W.heap.size, 0, none⟩) 1 1) [d] (by simp [Act.eval]) (OwnU.made (l := [d]) (heap_alloc_new W.drew _) (by omega) (by simp)) (l.length + 1) (by simp) (by omega) (by simp; omega) ?_; intro a1 c1 w1 ho1 hg1; have HX := And.intro ho1 hg1; have hb1 := grown_block hg1 ((((Gr.refl W).drew.alloc (.cells #[.int .u8 (d.toNat : Int)] 5)).block hz).trans H1.out) hvT; have hc1 : w1.cell? ⟨T, 0, none⟩ = some v := cell_block (cs := [v]) hb1 0; have hf1 := free_block (cs := [v]) hb1 0; have hz1 := (Array.getElem?_eq_some_iff.1 hb1).1))
    all_goals exact ⟨a1, c1, ⟨heap_setCell_same w1 T 0 _ _ _ hb1, ho1.set T 0 _ (ho1.ne hb1 (by decide)), ((HR.out.gr ((Gr.refl W).drew.alloc _)).grown hg1 HV.out).grown (grown_set w1 T 0 _) (fun k hk => by cases hk; exact .inl hT), ((HG.out.trans ((Gr.refl W).drew.alloc _)).grown hg1 (fun k hk => Nat.le_trans hb0 (World.ownsRow.lt H2.out k hk).1)).setOwn (b := T) (o := 0) (by omega) _⟩, rfl⟩
  rintro x1 n1 W1 ⟨hb1, ho1, hr1, hg1⟩
  go_wp2_with fail
  go_end0
  have hn := hr1.out.away ho1.out
  have e : (l ++ [g]).map b64C = l.map b64C ++ [d] := by rw [List.map_append, ← HD.out]; rfl
  refine ⟨rfl, ⟨.slice x1 (l.length + 1) n1, hb1.out, by rw [e]; exact ho1.out, fun q => ?_, fun q => ?_⟩, hr1.out, hg1.out⟩
  · have := hn _ q; omega
  · have := hn _ q; omega
end Go.Proofs.YtcjacgjeiljfgaaGreatDoor

namespace Go.Proofs.YtcjacgjeiljfgaaGreatDoor
open Go.RowKit

theorem bits8_succ (l : List UInt8) (k : Nat) (h : k < l.length) : bits8 (l.take (k + 1)) = bits8 (l.take k) ++ bitsK 8 l[k].toNat := by
  rw [List.take_succ_eq_append_getElem h]; unfold bits8; rw [List.flatMap_append]; simp
theorem grp_snoc (l : List UInt8) (k : Nat) (h : k < l.length) : grp 6 (bits8 (l.take (k + 1))) = ((grp 6 (bits8 (l.take k))).1 ++ (grp 6 ((grp 6 (bits8 (l.take k))).2 ++ bitsK 8 l[k].toNat)).1, (grp 6 ((grp 6 (bits8 (l.take k))).2 ++ bitsK 8 l[k].toNat)).2) := by
  rw [bits8_succ l k h]; exact grp_app (by decide) _ _ _ (Nat.le_refl _)
/-- The text at T. -/
def TxB (T base : Nat) (W : World) (t : List UInt8) : Prop := ∃ v, W.heap[T]? = some (.cells #[v] 93 (0, 0)) ∧ OwnU W base v t
theorem OwnU.shape {w : World} {base : Nat} {v : Value} {l : List UInt8} (h : OwnU w base v l) : ∃ a c, v = .slice a l.length c := by
  obtain ⟨_, h2⟩ := h
  rcases h2 with ⟨rfl, h0⟩ | ⟨g, cap, cur, rfl, _⟩
  · exact ⟨none, 0, by rw [h0]⟩
  · exact ⟨_, _, rfl⟩
def lenV : Value → Nat
  | .slice _ n _ => n
  | _ => 0
theorem wpList_append_u8 (w : World) {ops : Array Oper} {rest : List Oper} {o : Oper} {a : Act} {Q : Exit → Act → World → Prop} (hgd : o.guard = none) (s x : Operand)
    (ho : o.op = .call { callee := .builtin .append, args := #[s, x], argTypes := #[93, 93] }) (base : Nat) (v : Value) (xs : List UInt8) (hs : a.eval s = v) (hown : OwnU w base v xs)
    (sv : Value) (ys : List UInt8) (hx : a.eval x = sv) (hsl : OwnU w base sv ys) (n : Nat) (hn : xs.length + ys.length = n) (h63 : n ≤ 1000000) (hbase : base ≤ w.heap.size)
    (h : ∀ a' c' w', OwnU w' base (.slice a' n c') (xs ++ ys) → w.grownBy w' v.ownBlock → wpList Tryz.prog ops Q rest (a.put o.dst (.slice a' n c')) w') :
    wpList Tryz.prog ops Q (o :: rest) a w := by
  subst hn
  obtain ⟨i, z, h1, h2, h3, h4, h5⟩ := infoU
  refine wpList_append_sl w hgd s x 93 ho base 5 i z 1 1 Tryz.underlying93 h1 h2 h3 h4 h5 (by decide) v xs.length (xs.map cU) hs hown sv (rowsU ys) hx hsl.sl (rowsU_len _) (rowsU_one _) (by rw [rowsU_length]; exact h63) (by decide) hbase ?_
  intro a' c' w' ho' hg _
  rw [rowsU_flat, rowsU_length] at ho'
  rw [rowsU_length]
  refine h a' c' w' ?_ hg
  unfold OwnU
  rw [List.map_append, List.length_append]; exact ho'
theorem enc_pass (X T base : Nat) (w0 : World) (hT : T < X) (hb0 : w0.heap.size ≤ base) (hbT : base ≤ T) (hA0 : Alph w0) : Pass 6 X w0 109 T (TxS X T base b64C) :=
  ⟨enters_of Tryz.func109 (by kernel_rfl) rfl, fun W l k u hk h => TxS.set hT W l k u hk h, fun W W' l h hg => TxS.gr W W' l h hg, fun W l g fr b c hll hg hS hR hG => enc1C X T base w0 hT hb0 hbT hA0 W l g fr b c hll hg hS hR hG⟩
set_option maxRecDepth 100000 in
set_option maxHeartbeats 4000000 in
theorem encodeC (g o c : Nat) (l : List UInt8) (w : World) (hA : Alph w) (hl : l.length ≤ 1000) (h : ByAt w g o l) : Calls Tryz.prog 78 #[.slice (some ⟨g, o, none⟩) l.length c] w fun e w' => e = .returned (.string (bs (encL l))) ∧ Gr w w' := by
  obtain ⟨N, hN, hN1⟩ : ∃ N : Nat, ((l.length : Int) + 2) / 3 * 4 = (N : Int) ∧ N ≤ 10000 := ⟨(l.length + 2) / 3 * 4, by omega, by omega⟩
  have hmk : ∀ w, (Instr.makeSlice 93 (.int .i64 0) (.int .i64 (((l.length : Int) + 2) / 3 * 4))).run Tryz.prog w = .ok (.slice (some ⟨w.heap.size, 0, none⟩) 0 N) (w.alloc (.cells (madeCells #[.int .u8 0] N) 5)) := by
    rw [hN]; exact run_makeU N (by omega)
  have HOO := Lib.hid ((OwnU.fresh w w.heap.size N w.heap.size rfl (Nat.le_refl _) (by omega)).gr ((Gr.refl _).alloc (.cells #[.slice (some ⟨w.heap.size, 0, none⟩) 0 N] 93)))
  have HTT := Lib.hid (heap_alloc2_new w (.cells (madeCells #[.int .u8 0] N) 5) (.cells #[.slice (some ⟨w.heap.size, 0, none⟩) 0 N] 93))
  have HGG := Lib.hid (((Gr.refl w).alloc (.cells (madeCells #[.int .u8 0] N) 5)).alloc (.cells #[.slice (some ⟨w.heap.size, 0, none⟩) 0 N] 93))
  have HSZ : Hid (((w.alloc (.cells (madeCells #[.int .u8 0] N) 5)).alloc (.cells #[.slice (some ⟨w.heap.size, 0, none⟩) 0 N] 93)).heap.size = w.heap.size + 2) := by show _ = _; simp
  have HB := Lib.hid h
  have HA := Lib.hid hA
  clear h hA hN
  go_enter Tryz.func78, Tryz.ntmps78
  go_wp2_with fail
  generalize (w.alloc (.cells (madeCells #[.int .u8 0] N) 5)).alloc (.cells #[.slice (some ⟨w.heap.size, 0, none⟩) 0 N] 93) = U0 at *
  refine (regroupC 8 6 (.func 109) #[] #[ptr (w.heap.size + 1)] U0).mono ?_
  rintro e U1 ⟨rfl, hr, hg, hsz⟩
  generalize U0.heap.size = X at *
  have hX := HSZ.out
  have HG1 := Lib.hid (HGG.out.trans hg)
  have HR1 := Lib.hid hr
  have HS1 : Hid (TxS X (w.heap.size + 1) w.heap.size b64C U1 []) := ⟨_, (hg.block (Array.getElem?_eq_some_iff.1 HTT.out).1).trans HTT.out, HOO.out.gr hg, by simp [Value.ownBlock]; omega, by simp [Value.ownBlock]; omega⟩
  have HP := Lib.hid (enc_pass X (w.heap.size + 1) w.heap.size w (by omega) (Nat.le_refl _) (by omega) HA.out)
  have hxw : w.heap.size ≤ X := by omega
  have HBB : Hid (∀ k (h : k < l.length), l[k]? = some l[k]) := fun k h => List.getElem?_eq_getElem h
  have HGS := Lib.hid (grp_snoc l)
  have HLEN : Hid (∀ k, k ≤ l.length → 6 * (grp 6 (bits8 (l.take k))).1.length + (grp 6 (bits8 (l.take k))).2.length = 8 * k ∧ (grp 6 (bits8 (l.take k))).2.length < 6) := fun k hk => ⟨by rw [grp_len (by decide), bits8_len, List.length_take, Nat.min_eq_left hk], grp_left (by decide) _ _ (Nat.le_refl _)⟩
  have HALL : Hid (bits8 (l.take l.length) = bits8 l) := by show _ = _; rw [List.take_length]
  clear hr hg hsz HSZ HOO HTT HGG hmk
  obtain ⟨n, hn⟩ : ∃ n, l.length = n := ⟨_, rfl⟩
  rw [hn] at hl HALL HLEN
  rw [hn]
  have HN := Lib.hid hn
  clear hn hX
  unfold fnAdd fnLeft ptr
  go_wp2_with fail
  go_loopw [7, 23, 24, 25, 26, 27, 28, 29, 30, 31] (fun _ i _ _ _ _ _ _ _ _ wr => ∃ k : Nat, k ≤ n ∧ i = .int .i64 k ∧ Hid (RgAt wr X 8 6 (.func (.func 109) #[] #[ptr (w.heap.size + 1)]) (valB (grp 6 (bits8 (l.take k))).2 : Nat) ((grp 6 (bits8 (l.take k))).2.length : Nat)) ∧ Hid (TxS X (w.heap.size + 1) w.heap.size b64C wr (grp 6 (bits8 (l.take k))).1) ∧ Hid (Gr w wr)) (fun _ i _ _ _ _ _ _ _ _ _ => n - (intOf i).toNat)
  case atStart => exact ⟨0, Nat.zero_le _, rfl, HR1.out, HS1.out, HG1.out⟩
  case round =>
    obtain ⟨k, hk, rfl, hR, hS, hG⟩ := hrel
    by_cases hlt : k < n
    · have hk1 : (k : Int) < (n : Int) := by omega
      have hk2 : (0 : Int) ≤ (k : Int) := by omega
      have hlk : k < l.length := by have := HN.out; omega
      have c0 := (hG.out.cell HB.out.1).trans (HB.out.2 k _ (HBB.out k hlk))
      unfold cU at c0
      have hz := Nat.lt_of_lt_of_le HB.out.1 hG.out.size
      have hx := l[k].toNat_lt
      have HSN := Lib.hid (HGS.out k hlk)
      obtain ⟨q1, q2⟩ := HLEN.out k hk
      have HAD := Lib.hid (add86 X 109 (w.heap.size + 1) (TxS X (w.heap.size + 1) w.heap.size b64C) w HP.out hxw (grp 6 (bits8 (l.take k))).2 q2 l[k].toNat (by omega) (grp 6 (bits8 (l.take k))).1 (by omega) wr hR.out hS.out hG.out)
      generalize l[k].toNat = x at *
      have hw8 : IntKind.i64.wrap (x : Int) = (x : Int) := by rw [IntKind.wrap_i64]; omega
      clear q1 q2 hR hS
      go_wp2_with fail
      refine HAD.out.mono ?_
      rintro e W2 ⟨rfl, hr2, hs2, hg2⟩
      have HR2 := Lib.hid hr2; have HS2 := Lib.hid hs2; have HG2 := Lib.hid hg2
      clear hr2 hs2 hg2 c0 hz HAD hw8
      go_wp2_with fail
      go_roundw
      case rel => exact ⟨k + 1, by omega, by go_num, by show RgAt _ _ _ _ _ _ _; rw [HSN.out]; exact HR2.out, by show TxS _ _ _ _ _ _; rw [HSN.out]; exact HS2.out, HG2.out⟩
      case measure => simp [intOf]; omega
    · have hk1 : ¬ (k : Int) < (n : Int) := by omega
      have hkn : k = n := by omega
      obtain ⟨q1, q2⟩ := HLEN.out k hk
      rw [hkn, HALL.out] at hR hS q1 q2
      have HEN : Hid (encL l = padT (encB (grp 6 (bits8 l)))) := rfl
      generalize grp 6 (bits8 l) = r at *
      obtain ⟨gs, left⟩ := r
      simp only at hR hS q1 q2
      have HLF := Lib.hid (leftC X 8 6 _ _ _ wr hR.out)
      have hgs : gs.length ≤ 9000 := by omega
      clear hkn HGS HALL HLEN HP HBB HR1 HS1 HG1 HB hR q1 hk
      unfold ptr at HLF
      go_wp2_with fail
      refine HLF.out.mono ?_
      rintro e W2 ⟨rfl, hg2⟩
      have HG2 := Lib.hid (hG.out.trans hg2)
      obtain ⟨v, h1, h2, -, -⟩ := TxS.gr _ _ _ hS.out hg2
      have HT2 : Hid (TxB (w.heap.size + 1) w.heap.size W2 (gs.map b64C)) := ⟨v, h1, h2⟩
      have HA2 := Lib.hid (HA.out.gr HG2.out)
      clear hg2 hS hG HLF HA h1 h2
      by_cases hle : left = []
      · subst hle
        have HE2 : Hid (encB (gs, []) = gs.map b64C) := by show _ = _; simp [encB]
        have HT4 := HT2
        have G4 := HG2
        rw [← HE2.out] at HT4
        have HT0 : Hid ((encB (gs, [])).length ≤ 9001) := by show _ ≤ _; rw [HE2.out, List.length_map]; omega
        generalize encB (gs, []) = t0 at *
        have HPT : Hid (padT t0 = t0 ++ List.replicate ((4 - t0.length % 4) % 4) 61) := rfl
        obtain ⟨p, hp⟩ : ∃ p, (4 - t0.length % 4) % 4 = p := ⟨_, rfl⟩
        rw [hp] at HPT
        have HPP := Lib.hid hp
        clear hp
        go_wp2_with fail
        go_loopw [48, 49, 50, 51, 52, 53, 54] (fun _ _ _ _ _ _ _ wr => ∃ j : Nat, j ≤ p ∧ Hid (TxB (w.heap.size + 1) w.heap.size wr (t0 ++ List.replicate j 61)) ∧ Hid (Gr w wr)) (fun _ _ _ _ _ _ _ wr => p + t0.length - lenV ((wr.cell? ⟨w.heap.size + 1, 0, none⟩).getD undef))
        case atStart => exact ⟨0, Nat.zero_le _, by show TxB _ _ _ _; simpa using HT4.out, G4.out⟩
        case round =>
          obtain ⟨j, hj, hT, hG⟩ := hrel
          obtain ⟨v, h1, h2⟩ := hT.out
          obtain ⟨a, cp, rfl⟩ := h2.shape
          rw [List.length_append, List.length_replicate] at h1 h2
          have hc : wr.cell? ⟨w.heap.size + 1, 0, none⟩ = some (.slice a (t0.length + j) cp) := cell_block (cs := [.slice a (t0.length + j) cp]) h1 0
          have hf := free_block (cs := [.slice a (t0.length + j) cp]) h1 0
          have hz := (Array.getElem?_eq_some_iff.1 h1).1
          have hne := h2.ne h1 (by decide)
          have H1 := Lib.hid h1; have H2 := Lib.hid h2; have HC := Lib.hid hc
          obtain ⟨m, hm⟩ : ∃ m, t0.length + j = m := ⟨_, rfl⟩
          rw [hm] at hc H1 H2 HC hne
          have HM := Lib.hid hm
          clear h1 h2 hm hT
          by_cases h4 : m % 4 = 0
          · have hjp : j = p := by have := HPP.out; have := HM.out; omega
            have hm4 : (m : Int) % 4 = 0 := by omega
            have hcv : (convert 93 9 (.slice a m cp)).run Tryz.prog wr = .ok (.string (bs (padT t0))) wr := by
              have h := H2.out.str
              rw [hjp, ← HPT.out] at h; exact h
            rw [← HEN.out] at hcv
            clear hjp h4
            go_wp2_with fail
            go_ret
            exact ⟨rfl, hG.out⟩
          · have hm4 : ¬ (m : Int) % 4 = 0 := by omega
            have hjp : j < p := by have := HPP.out; have := HM.out; omega
            have O7 := Lib.hid (H2.out.gr ((Gr.refl wr).alloc (.cells #[.int .u8 61] 5)))
            have O8 : Hid (OwnU (wr.alloc (.cells #[.int .u8 61] 5)) w.heap.size (.slice (some ⟨wr.heap.size, 0, none⟩) 1 1) [61]) := OwnU.made (l := [61]) (heap_alloc_new wr _) hG.out.size (by simp)
            have z7 : w.heap.size ≤ (wr.alloc (.cells #[.int .u8 61] 5)).heap.size := by have := hG.out.size; simp; omega
            have hmb : m ≤ 90000 := by have := HM.out; have := HT0.out; have := HPP.out; omega
            have B7 := Lib.hid ((((Gr.refl wr).alloc (.cells #[.int .u8 61] 5)).block hz).trans H1.out)
            have HML : Hid ((t0 ++ List.replicate j 61).length + 1 = m + 1) := by show _ = _; rw [List.length_append, List.length_replicate, HM.out]
            clear h4
            go_wp2_with (refine wpList_append_u8 _ rfl _ _ rfl w.heap.size (.slice a m cp) (t0 ++ List.replicate j 61) (by simp [Act.eval]) O7.out (.slice (some ⟨wr.heap.size, 0, none⟩) 1 1) [61] (by simp [Act.eval]) O8.out (m + 1) HML.out (by omega) z7 ?_; intro a3 n3 w3 ho3 hg3; have b3 := grown_block hg3 B7.out hne; have c3 : w3.cell? ⟨w.heap.size + 1, 0, none⟩ = some (.slice a m cp) := cell_block (cs := [.slice a m cp]) b3 0; have f3 := free_block (cs := [.slice a m cp]) b3 0; have z3 := (Array.getElem?_eq_some_iff.1 b3).1)
            have hb5 := heap_setCell_same w3 (w.heap.size + 1) 0 _ _ (.slice a3 (m + 1) n3) b3
            have hc5 : (w3.setCell ⟨w.heap.size + 1, 0, none⟩ (.slice a3 (m + 1) n3)).cell? ⟨w.heap.size + 1, 0, none⟩ = some (.slice a3 (m + 1) n3) := cell_block (cs := [.slice a3 (m + 1) n3]) hb5 0
            refine ⟨⟨j + 1, by omega, ⟨_, hb5, ?_⟩, ((hG.out.alloc _).grown hg3 (fun k hk => (World.ownsRow.lt H2.out k hk).1)).setOwn (b := w.heap.size + 1) (o := 0) (by omega) _⟩, ?_⟩
            · have e : t0 ++ List.replicate (j + 1) 61 = t0 ++ List.replicate j 61 ++ [61] := by rw [List.replicate_succ', List.append_assoc]
              rw [e]; exact ho3.set _ 0 _ (ho3.ne b3 (by decide))
            · rw [hc5, HC.out]; have := HM.out; simp only [Option.getD_some, lenV]; omega
      · have hC1 : 1 ≤ left.length := by cases left with | nil => exact absurd rfl hle | cons b l => simp
        have HE2 : Hid (encB (gs, left) = gs.map b64C ++ [b64C (valB left * 2 ^ (6 - left.length))]) := by show _ = _; unfold encB; rw [if_neg hle]
        have hlt2 := valB_lt left
        have hQ : valB left * 2 ^ (6 - left.length) < 64 := by
          have h6 : 2 ^ left.length * 2 ^ (6 - left.length) = 64 := by rw [← Nat.pow_add, show left.length + (6 - left.length) = 6 by omega]
          rw [← h6]; exact Nat.mul_lt_mul_of_pos_right hlt2 (Nat.two_pow_pos _)
        have hal := HA2.out (valB left * 2 ^ (6 - left.length)) hQ
        have hQe : (valB left : Int) * 2 ^ (6 - left.length) = ((valB left * 2 ^ (6 - left.length) : Nat) : Int) := by simp
        obtain ⟨v, h1, h2⟩ := HT2.out
        have hc : W2.cell? ⟨w.heap.size + 1, 0, none⟩ = some v := cell_block (cs := [v]) h1 0
        have hf := free_block (cs := [v]) h1 0
        have hz := (Array.getElem?_eq_some_iff.1 h1).1
        have hza := HA2.out.lt
        have hne := h2.ne h1 (by decide)
        have H1 := Lib.hid h1; have H2 := Lib.hid h2
        obtain ⟨D, hD, hD2⟩ : ∃ D : Nat, (6 : Int) - (left.length : Int) = (D : Int) ∧ 6 - left.length = D := ⟨6 - left.length, by omega, rfl⟩
        rw [hD2] at hal hQ hQe HE2
        obtain ⟨d, hd⟩ : ∃ d, b64C (valB left * 2 ^ D) = d := ⟨_, rfl⟩
        rw [hd] at hal HE2
        unfold cU at hal
        generalize valB left * 2 ^ D = Q at *
        generalize valB left = B at *
        have hCi : (0 : Int) < (left.length : Int) := by omega
        have hQw : IntKind.i64.wrap (Q : Int) = (Q : Int) := by rw [IntKind.wrap_i64]; omega
        have hQi : (Q : Int) < 64 := by omega
        have hDn : ((D : Int)).toNat = D := by simp
        have hD64 : D ≤ 64 := by omega
        have hwD : IntKind.i64.wrap (D : Int) = (D : Int) := by rw [IntKind.wrap_i64]; omega
        have hwQ : IntKind.i64.wrap ((B : Int) * 2 ^ D) = (Q : Int) := by rw [hQe, hQw]
        have hsz2 : w.heap.size ≤ W2.heap.size := HG2.out.size
        clear h1 h2 hle hC1 hlt2 hD2 hd HT2
        go_wp2_with fail
        apply wp_toR (R := fun x n W' => Hid (TxB (w.heap.size + 1) w.heap.size W' (gs.map b64C ++ [d])) ∧ Hid (Gr w W'))
        case h =>
          go_region_law (first | (refine step_append_u8 rfl 47 rfl (.tmp 39) (.tmp 46) rfl w.heap.size v (gs.map b64C) (by simp [Act.eval]) (H2.out.gr ((Gr.refl W2).drew.alloc _)) (.slice (some ⟨W2.heap.size, 0, none⟩) 1 1) [d] (by simp [Act.eval]) (OwnU.made (l := [d]) (heap_alloc_new W2.drew _) hsz2 (by simp)) (gs.length + 1) (by simp) (by omega) (by simp; omega) ?_; intro a1 c1 w1 ho1 hg1; have HX := And.intro ho1 hg1; have hb1 := grown_block hg1 ((((Gr.refl W2).drew.alloc (.cells #[.int .u8 (d.toNat : Int)] 5)).block hz).trans H1.out) hne; have hc1 : w1.cell? ⟨w.heap.size + 1, 0, none⟩ = some v := cell_block (cs := [v]) hb1 0; have hf1 := free_block (cs := [v]) hb1 0; have hz1 := (Array.getElem?_eq_some_iff.1 hb1).1))
          all_goals exact ⟨a1, c1, ⟨⟨_, heap_setCell_same w1 (w.heap.size + 1) 0 _ _ _ hb1, ho1.set (w.heap.size + 1) 0 _ (ho1.ne hb1 (by decide))⟩, ((HG2.out.trans ((Gr.refl W2).drew.alloc _)).grown hg1 (fun k hk => (World.ownsRow.lt H2.out k hk).1)).setOwn (b := w.heap.size + 1) (o := 0) (by omega) _⟩, rfl⟩
        rintro x1 n1 W4 ⟨HT4, G4⟩
        have HT0 : Hid ((encB (gs, left)).length ≤ 9001) := by show _ ≤ _; rw [HE2.out, List.length_append, List.length_map]; simp; omega
        rw [← HE2.out] at HT4
        clear hc hf hz hza hne H1 H2 hD HE2 hal hQe hQw hQi hDn hD64 hQ hwD hwQ
        generalize encB (gs, left) = t0 at *
        have HPT : Hid (padT t0 = t0 ++ List.replicate ((4 - t0.length % 4) % 4) 61) := rfl
        obtain ⟨p, hp⟩ : ∃ p, (4 - t0.length % 4) % 4 = p := ⟨_, rfl⟩
        rw [hp] at HPT
        have HPP := Lib.hid hp
        clear hp
        go_wp2_with fail
        go_loopw [48, 49, 50, 51, 52, 53, 54] (fun _ _ _ _ _ _ _ wr => ∃ j : Nat, j ≤ p ∧ Hid (TxB (w.heap.size + 1) w.heap.size wr (t0 ++ List.replicate j 61)) ∧ Hid (Gr w wr)) (fun _ _ _ _ _ _ _ wr => p + t0.length - lenV ((wr.cell? ⟨w.heap.size + 1, 0, none⟩).getD undef))
        case atStart => exact ⟨0, Nat.zero_le _, by show TxB _ _ _ _; simpa using HT4.out, G4.out⟩
        case round =>
          obtain ⟨j, hj, hT, hG⟩ := hrel
          obtain ⟨v, h1, h2⟩ := hT.out
          obtain ⟨a, cp, rfl⟩ := h2.shape
          rw [List.length_append, List.length_replicate] at h1 h2
          have hc : wr.cell? ⟨w.heap.size + 1, 0, none⟩ = some (.slice a (t0.length + j) cp) := cell_block (cs := [.slice a (t0.length + j) cp]) h1 0
          have hf := free_block (cs := [.slice a (t0.length + j) cp]) h1 0
          have hz := (Array.getElem?_eq_some_iff.1 h1).1
          have hne := h2.ne h1 (by decide)
          have H1 := Lib.hid h1; have H2 := Lib.hid h2; have HC := Lib.hid hc
          obtain ⟨m, hm⟩ : ∃ m, t0.length + j = m := ⟨_, rfl⟩
          rw [hm] at hc H1 H2 HC hne
          have HM := Lib.hid hm
          clear h1 h2 hm hT
          by_cases h4 : m % 4 = 0
          · have hjp : j = p := by have := HPP.out; have := HM.out; omega
            have hm4 : (m : Int) % 4 = 0 := by omega
            have hcv : (convert 93 9 (.slice a m cp)).run Tryz.prog wr = .ok (.string (bs (padT t0))) wr := by
              have h := H2.out.str
              rw [hjp, ← HPT.out] at h; exact h
            rw [← HEN.out] at hcv
            clear hjp h4
            go_wp2_with fail
            go_ret
            exact ⟨rfl, hG.out⟩
          · have hm4 : ¬ (m : Int) % 4 = 0 := by omega
            have hjp : j < p := by have := HPP.out; have := HM.out; omega
            have O7 := Lib.hid (H2.out.gr ((Gr.refl wr).alloc (.cells #[.int .u8 61] 5)))
            have O8 : Hid (OwnU (wr.alloc (.cells #[.int .u8 61] 5)) w.heap.size (.slice (some ⟨wr.heap.size, 0, none⟩) 1 1) [61]) := OwnU.made (l := [61]) (heap_alloc_new wr _) hG.out.size (by simp)
            have z7 : w.heap.size ≤ (wr.alloc (.cells #[.int .u8 61] 5)).heap.size := by have := hG.out.size; simp; omega
            have hmb : m ≤ 90000 := by have := HM.out; have := HT0.out; have := HPP.out; omega
            have B7 := Lib.hid ((((Gr.refl wr).alloc (.cells #[.int .u8 61] 5)).block hz).trans H1.out)
            have HML : Hid ((t0 ++ List.replicate j 61).length + 1 = m + 1) := by show _ = _; rw [List.length_append, List.length_replicate, HM.out]
            clear h4
            go_wp2_with (refine wpList_append_u8 _ rfl _ _ rfl w.heap.size (.slice a m cp) (t0 ++ List.replicate j 61) (by simp [Act.eval]) O7.out (.slice (some ⟨wr.heap.size, 0, none⟩) 1 1) [61] (by simp [Act.eval]) O8.out (m + 1) HML.out (by omega) z7 ?_; intro a3 n3 w3 ho3 hg3; have b3 := grown_block hg3 B7.out hne; have c3 : w3.cell? ⟨w.heap.size + 1, 0, none⟩ = some (.slice a m cp) := cell_block (cs := [.slice a m cp]) b3 0; have f3 := free_block (cs := [.slice a m cp]) b3 0; have z3 := (Array.getElem?_eq_some_iff.1 b3).1)
            have hb5 := heap_setCell_same w3 (w.heap.size + 1) 0 _ _ (.slice a3 (m + 1) n3) b3
            have hc5 : (w3.setCell ⟨w.heap.size + 1, 0, none⟩ (.slice a3 (m + 1) n3)).cell? ⟨w.heap.size + 1, 0, none⟩ = some (.slice a3 (m + 1) n3) := cell_block (cs := [.slice a3 (m + 1) n3]) hb5 0
            refine ⟨⟨j + 1, by omega, ⟨_, hb5, ?_⟩, ((hG.out.alloc _).grown hg3 (fun k hk => (World.ownsRow.lt H2.out k hk).1)).setOwn (b := w.heap.size + 1) (o := 0) (by omega) _⟩, ?_⟩
            · have e : t0 ++ List.replicate (j + 1) 61 = t0 ++ List.replicate j 61 ++ [61] := by rw [List.replicate_succ', List.append_assoc]
              rw [e]; exact ho3.set _ 0 _ (ho3.ne b3 (by decide))
            · rw [hc5, HC.out]; have := HM.out; simp only [Option.getD_some, lenV]; omega
end Go.Proofs.YtcjacgjeiljfgaaGreatDoor

namespace Go.Proofs.YtcjacgjeiljfgaaGreatDoor
open Go.RowKit

theorem ByAt.sl {w : World} {g o : Nat} {l : List UInt8} (h : ByAt w g o l) (n c : Nat) (hn : l.length = n) (hc : n ≤ c) : SlAt w (.slice (some ⟨g, o, none⟩) n c) 1 (rowsU l) := by
  subst hn
  refine ⟨some ⟨g, o, none⟩, c, by rw [rowsU_length], by rw [rowsU_length]; exact hc, fun j hj => ?_⟩
  rw [rowsU_length] at hj
  have hx := h.2 j _ (List.getElem?_eq_getElem hj)
  refine ⟨g, o, rfl, h.1, ?_, ?_⟩
  · rw [Nat.mul_one, hasRow_iff]
    intro i hi
    obtain rfl : i = 0 := by omega
    rw [Addr.add_lit, Nat.add_zero, hx]; rfl
  · have e : (rowsU l)[j]'(by rw [rowsU_length]; exact hj) = [cU l[j]] := by simp [rowsU]
    rw [Nat.mul_one, e]
    simp [rowAt, Addr.add_lit, hx]
/-- .. whatever is appended. -/
theorem step_append_u8s {ops : Array Oper} {o : Oper} {a : Act} {w : World} {K : Act → World → Prop} {Q : Exit → Act → World → Prop} {E : Prop}
    (hg : o.guard = none) (d : Nat) (hd : o.dst = some d) (s x : Operand) (hop : o.op = Op.call { callee := Callee.builtin Builtin.append, args := #[s, x], argTypes := #[93, 93] })
    (base : Nat) (v : Value) (xs : List UInt8) (hs : a.eval s = v) (hown : OwnU w base v xs) (sv : Value) (ys : List UInt8) (hx : a.eval x = sv) (hsl : SlAt w sv 1 (rowsU ys)) (N : Nat) (hN : xs.length + ys.length = N) (h63 : N ≤ 1000000) (hbase : base ≤ w.heap.size)
    (hK : ∀ a' c' w', OwnU w' base (.slice a' N c') (xs ++ ys) → w.grownBy w' v.ownBlock → K (a.put (some d) (.slice a' N c')) w') :
    if Region.wanted o (yielded ops a.tmps) = true then Oper.wp Tryz.prog o a w K Q else E := by
  subst hN
  have hw : Region.wanted o (yielded ops a.tmps) = true := by simp [Region.wanted, hg]
  rw [if_pos hw]
  obtain ⟨i, z, i1, i2, i3, i4, i5⟩ := infoU
  obtain ⟨a', c', w', hrun, h2, h3, _⟩ := run_append_sl (P := Tryz.prog) w base 93 o.type 5 i z 1 1 Tryz.underlying93 i1 i2 i3 i4 i5 (by decide) v xs.length (xs.map cU) hown sv (rowsU ys) hsl (rowsU_len _) (rowsU_one _) (by rw [rowsU_length]; exact h63) (by decide) hbase
  rw [rowsU_length] at hrun h2
  rw [rowsU_flat] at h2
  unfold Oper.wp
  simp [execOp, hop, resolve, invoke, builtin, hs, hx, hrun, Result.andThen]
  show K (a.put o.dst _) w'
  rw [hd]
  refine hK a' c' w' ?_ h3
  unfold OwnU
  rw [List.map_append, List.length_append]; exact h2
def pubB (h : Int) (r : Aut) : List UInt8 := UInt8.ofNat h.toNat :: r.toList
theorem pubT_eq (h : Int) (r : Aut) : pubT h r = encL (pubB h r) := rfl
theorem pubB_len (h : Int) (r : Aut) : (pubB h r).length = 17 := by simp [pubB]
set_option maxRecDepth 100000 in
set_option maxHeartbeats 2000000 in
theorem pubBytesC (h : Int) (r : Aut) (w : World) (h1 : 1 ≤ h) (h8 : h ≤ 8) : Calls Tryz.prog 41 #[.agg (pubC h r).toArray] w fun e w' => ∃ v, e = .returned v ∧ OwnU w' w.heap.size v (pubB h r) ∧ Gr w w' := by
  have hb := heap_alloc_new w (.cells (pubC h r).toArray 29)
  have g0 := (Gr.refl w).alloc (.cells (pubC h r).toArray 29)
  have c0 : (w.alloc (.cells (pubC h r).toArray 29)).cell? ⟨w.heap.size, 0, none⟩ = some (.int .i64 h) := cell_block hb 0
  have HBY : Hid (ByAt (w.alloc (.cells (pubC h r).toArray 29)) w.heap.size 1 r.toList) := ⟨by simp, fun j x hj => by
    rw [cell_block hb]; unfold pubC
    rw [Nat.add_comm, List.getElem?_cons_succ]; unfold bC; rw [List.getElem?_map, hj]; rfl⟩
  have hz : w.heap.size < (w.alloc (.cells (pubC h r).toArray 29)).heap.size := by simp
  have G0 := Lib.hid g0
  obtain ⟨n, hn⟩ : ∃ n : Nat, h = (n : Int) := ⟨h.toNat, by omega⟩
  subst hn
  have hw : IntKind.u8.wrap (n : Int) = (n : Int) := by rw [IntKind.wrap_u8]; omega
  have hw2 : (n : Int) % 256 = (n : Int) := by omega
  have e1 : cU (UInt8.ofNat n) = .int .u8 (n : Int) := by unfold cU; simp; omega
  have E1 := Lib.hid e1
  clear hb g0 e1
  go_enter Tryz.func41, Tryz.ntmps41
  go_wp2_with fail
  generalize w.alloc (.cells (pubC (n : Int) r).toArray 29) = W at *
  have HO : Hid (OwnU (W.drew.alloc (.cells #[.int .u8 (n : Int)] 5)) w.heap.size (.slice (some ⟨W.heap.size, 0, none⟩) 1 1) [UInt8.ofNat n]) := by
    rw [← E1.out]; exact OwnU.made (l := [UInt8.ofNat n]) (heap_alloc_new W.drew _) (Nat.le_of_lt hz) (by simp)
  have HSL := Lib.hid ((HBY.out.gr ((Gr.refl W).drew.alloc (.cells #[.int .u8 (n : Int)] 5))).sl 16 16 (by simp) (Nat.le_refl _))
  have hb17 : w.heap.size ≤ (W.drew.alloc (.cells #[.int .u8 (n : Int)] 5)).heap.size := by simp; omega
  have hlen : (r.toList).length = 16 := by simp
  apply wp_toR (R := fun x m W' => Hid (OwnU W' w.heap.size (.slice x 17 m) (pubB (n : Int) r)) ∧ Hid (Gr w W'))
  case h =>
    go_region_law (first | (refine step_append_u8s rfl 9 rfl (.tmp 6) (.tmp 8) rfl w.heap.size (.slice (some ⟨W.heap.size, 0, none⟩) 1 1) [UInt8.ofNat n] (by simp [Act.eval]) HO.out (.slice (some ⟨w.heap.size, 1, none⟩) 16 16) r.toList (by simp [Act.eval]) HSL.out 17 (by simp) (by decide) hb17 ?_; intro a1 c1 w1 ho1 hg1))
    all_goals exact ⟨a1, c1, ⟨ho1, (G0.out.trans ((Gr.refl W).drew.alloc (.cells #[.int .u8 (n : Int)] 5))).grown hg1 (fun k hk => by cases hk; exact Nat.le_of_lt hz)⟩, rfl⟩
  rintro x1 m1 W1 ⟨ho1, hg1⟩
  go_wp2_with fail
  go_ret
  exact ⟨_, rfl, ho1.out, hg1.out⟩
set_option maxRecDepth 100000 in
set_option maxHeartbeats 2000000 in
theorem b64EncodeC (g c n : Nat) (s : ByteArray) (w : World) (hn : n ≤ 1000) (h : Calls Tryz.prog 78 #[.slice (some ⟨g, 0, none⟩) n c] w fun e w' => e = .returned (.string s) ∧ Gr w w') :
    Calls Tryz.prog 40 #[.slice (some ⟨g, 0, none⟩) n c] w fun e w' => e = .returned (.tuple #[.string s, .int .i64 0]) ∧ Gr w w' := by
  have H := Lib.hid h
  have h1 : ¬ 131072 < (n : Int) := by omega
  clear h
  go_enter Tryz.func40, Tryz.ntmps40
  go_wp2_with fail
  refine H.out.mono ?_
  rintro e w1 ⟨rfl, hg1⟩
  have G1 := Lib.hid hg1
  clear hg1
  go_wp2_with fail
  go_ret2
  exact ⟨rfl, G1.out⟩
set_option maxRecDepth 100000 in
set_option maxHeartbeats 2000000 in
theorem pubTextC (h : Int) (r : Aut) (w : World) (hA : Alph w) (h1 : 1 ≤ h) (h8 : h ≤ 8) : Calls Tryz.prog 16 #[.agg (pubC h r).toArray] w fun e w' => e = .returned (.tuple #[.string (bs (pubT h r)), .int .i64 0]) ∧ Gr w w' := by
  have hb := heap_alloc_new w (.cells (pubC h r).toArray 29)
  have g0 := (Gr.refl w).alloc (.cells (pubC h r).toArray 29)
  have HCK : Hid (∀ W, Calls Tryz.prog 34 #[.agg (pubC h r).toArray] W fun e w' => e = .returned (.int .i64 0) ∧ Gr W w') := fun W => by
    have hc := pubCheckC h r W
    rw [show heightErr h = 0 by unfold heightErr; rw [if_neg (by omega)]] at hc; exact hc
  have HBT : Hid (∀ W, Calls Tryz.prog 41 #[.agg (pubC h r).toArray] W fun e w' => ∃ v, e = .returned v ∧ OwnU w' W.heap.size v (pubB h r) ∧ Gr W w') := fun W => pubBytesC h r W h1 h8
  have HL := Lib.hid (pubB_len h r)
  have HA := Lib.hid hA
  have HT : Hid (encL (pubB h r) = pubT h r) := rfl
  have r0 := hasRow_block hb 0 17 (by rw [pubC_length]; decide)
  have q0 := (rowAt_block hb 0 17 (by rw [pubC_length]; decide)).trans (rowOf_all _ _ (pubC_length h r))
  have HB := Lib.hid hb
  have G0 := Lib.hid g0
  clear hb g0 hA
  go_enter Tryz.func16, Tryz.ntmps16
  go_wp2_with fail
  refine (HCK.out _).mono ?_
  rintro e w1 ⟨rfl, hg1⟩
  have hb1 := (hg1.block (b := w.heap.size) (by simp)).trans HB.out
  have r1 := hasRow_block hb1 0 17 (by rw [pubC_length]; decide)
  have q1 := (rowAt_block hb1 0 17 (by rw [pubC_length]; decide)).trans (rowOf_all _ _ (pubC_length h r))
  have G1 := Lib.hid (G0.out.trans hg1)
  clear r0 q0 hg1 hb1 HB
  go_wp2_with fail
  refine (HBT.out _).mono ?_
  rintro e w2 ⟨v, rfl, hv, hg2⟩
  have G2 := Lib.hid (G1.out.trans hg2)
  obtain ⟨g, c, rfl, hc, hg, _, hcell⟩ := hv.cells (by intro e; have := HL.out; rw [e] at this; cases this)
  have HEN := Lib.hid (encodeC g 0 c (pubB h r) w2 (HA.out.gr G2.out) (by rw [HL.out]; decide) ⟨hg, hcell⟩)
  rw [HL.out, HT.out] at HEN
  rw [HL.out]
  clear hv hg2 hcell r1 q1 HBT HCK
  go_wp2_with fail
  refine (b64EncodeC g c 17 _ w2 (by decide) HEN.out).mono ?_
  rintro e w3 ⟨rfl, hg3⟩
  have G3 := Lib.hid (G2.out.trans hg3)
  clear hg3 HEN
  go_wp2_with fail
  go_ret2
  exact ⟨rfl, G3.out⟩
end Go.Proofs.YtcjacgjeiljfgaaGreatDoor

namespace Go.Proofs.YtcjacgjeiljfgaaGreatDoor
open Go.RowKit

/-- .. where a block's number besides stands in the frame. -/
def AtEndR3 (A : Option Addr → Nat → Nat → Act) (R : Option Addr → Nat → World → Prop) (e : Exit) (a : Act) (w : World) : Prop := match e with | .normal => ∃ x n k, R x n w ∧ a = A x n k | _ => False
theorem wp_toR3 {P : Program} {c : Code} {Q' : Exit → Act → World → Prop} {a : Act} {w : World} (A : Option Addr → Nat → Nat → Act) (R : Option Addr → Nat → World → Prop) (h : c.wp P (AtEndR3 A R) a w) (hq : ∀ x n k W, R x n W → Q' .normal (A x n k) W) : c.wp P Q' a w :=
  Code.wp_mono (fun e a w h => by cases e <;> first | exact h.elim | (obtain ⟨x, n, k, h2, h3⟩ := h; subst h3; exact hq x n k w h2)) h
set_option maxRecDepth 100000 in
set_option maxHeartbeats 4000000 in
theorem print1C (t : Id) (g : ByteArray) (n : Int) (m : Bool) (l : List Aut) (tx : ByteArray) (nu ht : Int) (r : Aut) (v : Value) (w : World) (hE : Env w) (hv : AutsAt w v l) (hl : l.length ≤ 1000000) (htx : tx.size ≤ 9223372036854775807) (he : cmErr ⟨1, t, g, n, m, l, tx, nu, ht, r⟩ = 0)
    (hlen : (printS ⟨1, t, g, n, m, l, tx, nu, ht, r⟩).length ≤ 1000000) :
    Calls Tryz.prog 5 #[.agg (cmC ⟨1, t, g, n, m, l, tx, nu, ht, r⟩ v).toArray] w fun e w' => e = .returned (.tuple #[.string (bs (printS ⟨1, t, g, n, m, l, tx, nu, ht, r⟩)), .int .i64 0]) ∧ Gr w w' := by
  have g0 := (Gr.refl w).alloc (.cells (cmC ⟨1, t, g, n, m, l, tx, nu, ht, r⟩ v).toArray 38)
  have HCK := Lib.hid (cmCheckC ⟨1, t, g, n, m, l, tx, nu, ht, r⟩ v _ (hE.gr g0) (hv.gr g0) hl htx)
  have B0 := Lib.hid (heap_alloc_new w (.cells (cmC ⟨1, t, g, n, m, l, tx, nu, ht, r⟩ v).toArray 38))
  have G0 := Lib.hid g0
  rw [he] at HCK
  have HM : Hid (∀ W, Calls Tryz.prog 13 #[.agg (bC t).toArray] W fun e w' => e = .returned (.string (bs (midT t))) ∧ Gr W w') := midPrintC t
  have HLEN := Lib.hid hlen
  clear g0 hE hv hl htx he hlen
  go_enter Tryz.func5, Tryz.ntmps5
  go_wp2_with fail
  refine HCK.out.mono ?_
  rintro e U ⟨rfl, hg1⟩
  have hb1 := (hg1.block (b := w.heap.size) (by simp)).trans B0.out
  have GU := Lib.hid (G0.out.trans hg1)
  obtain ⟨c0, c33, c34, c35, c36, c37, c38, c39, r1, q1, r39, q39, r40, q40, r0, q0, z⟩ := cm_facts hb1
  have HB1 := Lib.hid hb1
  clear hg1 hb1 B0 HCK
  go_wp2_with (go_at_call 12; refine (kindNameC _ _).mono ?_; rintro e w' ⟨rfl, rfl⟩; rw [ks1])
  have g2 := (Gr.refl U).alloc (.cells #[.string ⟨#[99, 97, 110, 99, 101, 108]⟩] 9)
  have hb2 := (g2.block z).trans HB1.out
  have ho2 : OwnS (U.alloc (.cells #[.string ⟨#[99, 97, 110, 99, 101, 108]⟩] 9)) w.heap.size (.slice (some ⟨U.heap.size, 0, none⟩) 1 1) [kindS 1] := OwnS.made (l := [kindS 1]) (heap_alloc_new U _) (by omega) (by decide)
  have hz2 : U.heap.size < (U.alloc (.cells #[.string ⟨#[99, 97, 110, 99, 101, 108]⟩] 9)).heap.size := by simp
  generalize U.alloc (.cells #[.string ⟨#[99, 97, 110, 99, 101, 108]⟩] 9) = W1 at *
  have G1 := Lib.hid (GU.out.trans g2)
  have HB2 := Lib.hid hb2
  have HO2 := Lib.hid ho2
  clear c0 c33 c34 c35 c36 c37 c38 c39 r1 q1 r39 q39 r40 q40 r0 q0 g2 ho2 HB1
  obtain ⟨c0, c33, c34, c35, c36, c37, c38, c39, r1, q1, r39, q39, r40, q40, r0, q0, z1⟩ := cm_facts hb2
  clear hb2
  obtain ⟨mid, hmid⟩ : ∃ x, bs (midT t) = x := ⟨_, rfl⟩
  rw [hmid] at HM
  have HMI := Lib.hid hmid
  have hps : printS ⟨1, t, g, n, m, l, tx, nu, ht, r⟩ = Lib.join (([kindS 1] ++ [mid]).map bl) (bl ⟨#[32]⟩) := by rw [← hmid]; rfl
  clear hmid
  have hz0 : w.heap.size ≤ U.heap.size := by omega
  refine (HM.out _).mono ?_
  rintro e w4 ⟨rfl, hg4⟩
  have O7 := Lib.hid ((HO2.out.gr hg4).gr ((Gr.refl w4).alloc (.cells #[.string mid] 9)))
  have hz4 := (G1.out.trans hg4).size
  have O8 : Hid (OwnS (w4.alloc (.cells #[.string mid] 9)) w.heap.size (.slice (some ⟨w4.heap.size, 0, none⟩) 1 1) [mid]) := OwnS.made (l := [mid]) (heap_alloc_new w4 _) hz4 (by simp)
  have z7 : w.heap.size ≤ (w4.alloc (.cells #[.string mid] 9)).heap.size := by simp; omega
  have G4 := Lib.hid ((G1.out.trans hg4).alloc (.cells #[.string mid] 9))
  clear hg4 c0 c33 c34 c35 c36 c37 c38 c39 r1 q1 r39 q39 r40 q40 r0 q0 z1 HM
  go_wp2_with (refine wpList_append_str _ rfl _ _ rfl w.heap.size (.slice (some ⟨U.heap.size, 0, none⟩) 1 1) [kindS 1] (by simp [Act.eval]) O7.out (.slice (some ⟨w4.heap.size, 0, none⟩) 1 1) [mid] (by simp [Act.eval]) O8.out (by simp) z7 ?_; intro a1 c1 w1 ho1 hg1)
  rw [hps] at HLEN
  refine (OwnS.join (v := .slice a1 2 c1) ho1 ⟨#[32]⟩ (Nat.le_trans HLEN.out (by decide)) (by simp)).mono ?_
  rintro e w2 ⟨rfl, hg2⟩
  have G5 := Lib.hid ((G4.out.grown hg1 (fun k hk => by cases hk; exact hz0)).trans hg2)
  clear hg1 hg2 ho1
  go_wp2_with fail
  go_ret2
  exact ⟨by rw [hps]; rfl, G5.out⟩
set_option maxRecDepth 100000 in
set_option maxHeartbeats 4000000 in
theorem print2C (t : Id) (g : ByteArray) (n : Int) (m : Bool) (l : List Aut) (tx : ByteArray) (nu ht : Int) (r : Aut) (v : Value) (w : World) (hE : Env w) (hv : AutsAt w v l) (hl : l.length ≤ 1000000) (htx : tx.size ≤ 9223372036854775807) (he : cmErr ⟨2, t, g, n, m, l, tx, nu, ht, r⟩ = 0)
    (hlen : (printS ⟨2, t, g, n, m, l, tx, nu, ht, r⟩).length ≤ 1000000) :
    Calls Tryz.prog 5 #[.agg (cmC ⟨2, t, g, n, m, l, tx, nu, ht, r⟩ v).toArray] w fun e w' => e = .returned (.tuple #[.string (bs (printS ⟨2, t, g, n, m, l, tx, nu, ht, r⟩)), .int .i64 0]) ∧ Gr w w' := by
  have g0 := (Gr.refl w).alloc (.cells (cmC ⟨2, t, g, n, m, l, tx, nu, ht, r⟩ v).toArray 38)
  have HCK := Lib.hid (cmCheckC ⟨2, t, g, n, m, l, tx, nu, ht, r⟩ v _ (hE.gr g0) (hv.gr g0) hl htx)
  have B0 := Lib.hid (heap_alloc_new w (.cells (cmC ⟨2, t, g, n, m, l, tx, nu, ht, r⟩ v).toArray 38))
  have G0 := Lib.hid g0
  rw [he] at HCK
  have HM : Hid (∀ W, Calls Tryz.prog 13 #[.agg (bC t).toArray] W fun e w' => e = .returned (.string (bs (midT t))) ∧ Gr W w') := midPrintC t
  have HLEN := Lib.hid hlen
  clear g0 hE hv hl htx he hlen
  go_enter Tryz.func5, Tryz.ntmps5
  go_wp2_with fail
  refine HCK.out.mono ?_
  rintro e U ⟨rfl, hg1⟩
  have hb1 := (hg1.block (b := w.heap.size) (by simp)).trans B0.out
  have GU := Lib.hid (G0.out.trans hg1)
  obtain ⟨c0, c33, c34, c35, c36, c37, c38, c39, r1, q1, r39, q39, r40, q40, r0, q0, z⟩ := cm_facts hb1
  have HB1 := Lib.hid hb1
  clear hg1 hb1 B0 HCK
  go_wp2_with (go_at_call 12; refine (kindNameC _ _).mono ?_; rintro e w' ⟨rfl, rfl⟩; rw [ks2])
  have g2 := (Gr.refl U).alloc (.cells #[.string ⟨#[97, 112, 112, 114, 111, 118, 101]⟩] 9)
  have hb2 := (g2.block z).trans HB1.out
  have ho2 : OwnS (U.alloc (.cells #[.string ⟨#[97, 112, 112, 114, 111, 118, 101]⟩] 9)) w.heap.size (.slice (some ⟨U.heap.size, 0, none⟩) 1 1) [kindS 2] := OwnS.made (l := [kindS 2]) (heap_alloc_new U _) (by omega) (by decide)
  have hz2 : U.heap.size < (U.alloc (.cells #[.string ⟨#[97, 112, 112, 114, 111, 118, 101]⟩] 9)).heap.size := by simp
  generalize U.alloc (.cells #[.string ⟨#[97, 112, 112, 114, 111, 118, 101]⟩] 9) = W1 at *
  have G1 := Lib.hid (GU.out.trans g2)
  have HB2 := Lib.hid hb2
  have HO2 := Lib.hid ho2
  clear c0 c33 c34 c35 c36 c37 c38 c39 r1 q1 r39 q39 r40 q40 r0 q0 g2 ho2 HB1
  obtain ⟨c0, c33, c34, c35, c36, c37, c38, c39, r1, q1, r39, q39, r40, q40, r0, q0, z1⟩ := cm_facts hb2
  clear hb2
  obtain ⟨mid, hmid⟩ : ∃ x, bs (midT t) = x := ⟨_, rfl⟩
  rw [hmid] at HM
  have hps : printS ⟨2, t, g, n, m, l, tx, nu, ht, r⟩ = Lib.join (([kindS 2] ++ [mid, g]).map bl) (bl ⟨#[32]⟩) := by rw [← hmid]; rfl
  have HPS := Lib.hid hps
  rw [hps] at HLEN
  clear hmid hps
  have hz0 : w.heap.size ≤ U.heap.size := by omega
  have KS : Hid (∀ W, Gr W1 W → W.cell? ⟨w.heap.size, 33, none⟩ = some (.string g) ∧ hasRow W ⟨w.heap.size, 1, none⟩ 32 = true ∧ rowAt W ⟨w.heap.size, 1, none⟩ 32 = bC t) := fun W hW => ⟨(hW.cell (p := ⟨w.heap.size, 33, none⟩) z1).trans c33, (hW.hasRow z1).trans r1, (hW.rowAt z1).trans q1⟩
  have HG0 := Lib.hid G1.out
  clear c0 c34 c35 c36 c37 c38 c39 r39 q39 r40 q40 r0 q0
  apply wp_toR3 (R := fun x n W' => Hid (OwnS W' w.heap.size (.slice x 3 n) ([kindS 2] ++ [mid, g])) ∧ Hid (Gr w W'))
  case h =>
    go_region_law (first
      | (go_simp; go_at_call 13; refine (HM.out _).mono ?_; rintro e w4 ⟨rfl, hg4⟩; have G4 := (Gr.refl W1).drew.trans hg4; have k33 := (KS.out _ G4).1; have kr := (KS.out _ G4).2.1; have kq := (KS.out _ G4).2.2)
      | (refine step_append_str rfl 36 rfl (.tmp 29) (.tmp 35) rfl w.heap.size (.slice (some ⟨U.heap.size, 0, none⟩) 1 1) [kindS 2] (by simp [Act.eval]) ((HO2.out.gr G4).gr ((Gr.refl w4).alloc _)) (.slice (some ⟨w4.heap.size, 0, none⟩) 2 2) [mid, g] (by simp [Act.eval]) (OwnS.made (l := [mid, g]) (heap_alloc_new w4 _) (by have := G4.size; omega) (by simp)) 3 rfl (by decide) (by have := G4.size; simp; omega) ?_; intro a1 c1 w1 ho1 hg1))
    all_goals (have hR1 := And.intro (Lib.hid ho1) (Lib.hid (((HG0.out.trans G4).alloc (.cells #[.string mid, .string g] 9)).grown hg1 (fun k hk => by cases hk; exact hz0))); obtain ⟨kk, hkk⟩ : ∃ kk, w4.heap.size = kk := ⟨_, rfl⟩; rw [hkk]; exact ⟨a1, c1, kk, hR1, rfl⟩)
  rintro x1 n1 k1 W5 ⟨ho5, hg5⟩
  clear c33 r1 q1 KS HM
  go_wp2_with fail
  refine (OwnS.join (v := .slice x1 3 n1) ho5.out ⟨#[32]⟩ (Nat.le_trans HLEN.out (by decide)) (by simp)).mono ?_
  rintro e w2 ⟨rfl, hg2⟩
  have G6 := Lib.hid (hg5.out.trans hg2)
  clear hg2 ho5
  go_wp2_with fail
  go_ret2
  exact ⟨by rw [HPS.out]; rfl, G6.out⟩
set_option maxRecDepth 100000 in
set_option maxHeartbeats 4000000 in
theorem print5C (t : Id) (g : ByteArray) (n : Int) (m : Bool) (l : List Aut) (tx : ByteArray) (nu ht : Int) (r : Aut) (v : Value) (w : World) (hE : Env w) (hv : AutsAt w v l) (hl : l.length ≤ 1000000) (htx : tx.size ≤ 9223372036854775807) (he : cmErr ⟨5, t, g, n, m, l, tx, nu, ht, r⟩ = 0) (hI : ItoaAt w nu) (hA : Alph w) (h1 : 1 ≤ ht) (h8 : ht ≤ 8)
    (hlen : (printS ⟨5, t, g, n, m, l, tx, nu, ht, r⟩).length ≤ 1000000) :
    Calls Tryz.prog 5 #[.agg (cmC ⟨5, t, g, n, m, l, tx, nu, ht, r⟩ v).toArray] w fun e w' => e = .returned (.tuple #[.string (bs (printS ⟨5, t, g, n, m, l, tx, nu, ht, r⟩)), .int .i64 0]) ∧ Gr w w' := by
  have g0 := (Gr.refl w).alloc (.cells (cmC ⟨5, t, g, n, m, l, tx, nu, ht, r⟩ v).toArray 38)
  have HCK := Lib.hid (cmCheckC ⟨5, t, g, n, m, l, tx, nu, ht, r⟩ v _ (hE.gr g0) (hv.gr g0) hl htx)
  have B0 := Lib.hid (heap_alloc_new w (.cells (cmC ⟨5, t, g, n, m, l, tx, nu, ht, r⟩ v).toArray 38))
  have G0 := Lib.hid g0
  rw [he] at HCK
  have HI := Lib.hid hI
  have HM : Hid (∀ W, Gr w W → Calls Tryz.prog 16 #[.agg (pubC ht r).toArray] W fun e w' => e = .returned (.tuple #[.string (bs (pubT ht r)), .int .i64 0]) ∧ Gr W w') := fun W h => pubTextC ht r W (hA.gr h) h1 h8
  have HLEN := Lib.hid hlen
  clear g0 hE hv hl htx he hlen hI hA h1 h8
  go_enter Tryz.func5, Tryz.ntmps5
  go_wp2_with fail
  refine HCK.out.mono ?_
  rintro e U ⟨rfl, hg1⟩
  have hb1 := (hg1.block (b := w.heap.size) (by simp)).trans B0.out
  have GU := Lib.hid (G0.out.trans hg1)
  obtain ⟨c0, c33, c34, c35, c36, c37, c38, c39, r1, q1, r39, q39, r40, q40, r0, q0, z⟩ := cm_facts hb1
  have HB1 := Lib.hid hb1
  clear hg1 hb1 B0 HCK
  go_wp2_with (go_at_call 12; refine (kindNameC _ _).mono ?_; rintro e w' ⟨rfl, rfl⟩; rw [ks5])
  have g2 := (Gr.refl U).alloc (.cells #[.string ⟨#[114, 101, 107, 101, 121]⟩] 9)
  have hb2 := (g2.block z).trans HB1.out
  have ho2 : OwnS (U.alloc (.cells #[.string ⟨#[114, 101, 107, 101, 121]⟩] 9)) w.heap.size (.slice (some ⟨U.heap.size, 0, none⟩) 1 1) [kindS 5] := OwnS.made (l := [kindS 5]) (heap_alloc_new U _) (by omega) (by decide)
  have hz2 : U.heap.size < (U.alloc (.cells #[.string ⟨#[114, 101, 107, 101, 121]⟩] 9)).heap.size := by simp
  generalize U.alloc (.cells #[.string ⟨#[114, 101, 107, 101, 121]⟩] 9) = W1 at *
  have G1 := Lib.hid (GU.out.trans g2)
  have HB2 := Lib.hid hb2
  have HO2 := Lib.hid ho2
  clear c0 c33 c34 c35 c36 c37 c38 c39 r1 q1 r39 q39 r40 q40 r0 q0 g2 ho2 HB1
  obtain ⟨c0, c33, c34, c35, c36, c37, c38, c39, r1, q1, r39, q39, r40, q40, r0, q0, z1⟩ := cm_facts hb2
  clear hb2
  obtain ⟨pb, hpb⟩ : ∃ x, bs (pubT ht r) = x := ⟨_, rfl⟩
  rw [hpb] at HM
  have hps : printS ⟨5, t, g, n, m, l, tx, nu, ht, r⟩ = Lib.join (([kindS 5] ++ [itoaS nu, pb]).map bl) (bl ⟨#[32]⟩) := by rw [← hpb]; rfl
  have HPS := Lib.hid hps
  rw [hps] at HLEN
  clear hpb hps
  have hz0 : w.heap.size ≤ U.heap.size := by omega
  have KS : Hid (∀ W, Gr W1 W → W.cell? ⟨w.heap.size, 38, none⟩ = some (.int .i64 nu)) := fun W hW => (hW.cell (p := ⟨w.heap.size, 38, none⟩) z1).trans c38
  clear c33 c34 c35 c36 c37 c39 r1 q1 r40 q40 r0 q0
  refine (HM.out _ G1.out).mono ?_
  rintro e w4 ⟨rfl, hg4⟩
  have k38 := KS.out _ hg4
  have HO4 := Lib.hid (HO2.out.gr hg4)
  have G4 := Lib.hid (G1.out.trans hg4)
  clear c38 r39 q39 KS HM hg4
  go_wp2_with fail
  refine (HI.out _ G4.out).mono ?_
  rintro e w5 ⟨rfl, hg5⟩
  have O7 := Lib.hid ((HO4.out.gr hg5).gr ((Gr.refl w5).alloc (.cells #[.string (itoaS nu), .string pb] 9)))
  have hz5 := (G4.out.trans hg5).size
  have O8 : Hid (OwnS (w5.alloc (.cells #[.string (itoaS nu), .string pb] 9)) w.heap.size (.slice (some ⟨w5.heap.size, 0, none⟩) 2 2) [itoaS nu, pb]) := OwnS.made (l := [itoaS nu, pb]) (heap_alloc_new w5 _) hz5 (by simp)
  have z7 : w.heap.size ≤ (w5.alloc (.cells #[.string (itoaS nu), .string pb] 9)).heap.size := by simp; omega
  have G5 := Lib.hid ((G4.out.trans hg5).alloc (.cells #[.string (itoaS nu), .string pb] 9))
  clear hg5 k38 HI
  go_wp2_with (refine wpList_append_str _ rfl _ _ rfl w.heap.size (.slice (some ⟨U.heap.size, 0, none⟩) 1 1) [kindS 5] (by simp [Act.eval]) O7.out (.slice (some ⟨w5.heap.size, 0, none⟩) 2 2) [itoaS nu, pb] (by simp [Act.eval]) O8.out (by simp) z7 ?_; intro a1 c1 w1 ho1 hg1)
  refine (OwnS.join (v := .slice a1 3 c1) ho1 ⟨#[32]⟩ (Nat.le_trans HLEN.out (by decide)) (by simp)).mono ?_
  rintro e w2 ⟨rfl, hg2⟩
  have G6 := Lib.hid ((G5.out.grown hg1 (fun k hk => by cases hk; exact hz0)).trans hg2)
  clear hg1 hg2 ho1
  go_wp2_with fail
  go_ret2
  exact ⟨by rw [HPS.out]; rfl, G6.out⟩
end Go.Proofs.YtcjacgjeiljfgaaGreatDoor

namespace Go.Proofs.YtcjacgjeiljfgaaGreatDoor
open Go.RowKit

/-- Printable, not empty, no space at an end. -/
def fldB (s : Str) : Prop := s ≠ [] ∧ (∀ c ∈ s, 32 ≤ c.toNat ∧ c.toNat ≤ 126) ∧ s.head? ≠ some 32 ∧ s.getLast? ≠ some 32
theorem fld_app {a b : Str} {x : UInt8} (ha : fldB a) (hb : fldB b) (hx : 32 ≤ x.toNat ∧ x.toNat ≤ 126) : fldB (a ++ [x] ++ b) := by
  obtain ⟨a1, a2, a3, a4⟩ := ha
  obtain ⟨b1, b2, b3, b4⟩ := hb
  refine ⟨by simp, fun c hc => ?_, ?_, ?_⟩
  · rw [List.append_assoc, List.mem_append, List.mem_append, List.mem_singleton] at hc
    rcases hc with hc | rfl | hc
    · exact a2 c hc
    · exact hx
    · exact b2 c hc
  · cases a with
    | nil => exact absurd rfl a1
    | cons y a => exact a3
  · rcases List.eq_nil_or_concat b with rfl | ⟨t, y, rfl⟩
    · exact absurd rfl b1
    · rw [List.concat_eq_append] at *
      rw [List.getLast?_concat] at b4
      rw [← List.append_assoc, List.getLast?_concat]; exact b4
theorem fld_join {x : UInt8} (hx : 32 ≤ x.toNat ∧ x.toNat ≤ 126) : ∀ l : List Str, l ≠ [] → (∀ w ∈ l, fldB w) → fldB (Lib.join l [x])
  | [], h, _ => absurd rfl h
  | [a], _, h => by rw [Lib.join_one]; exact h a (by simp)
  | a :: b :: l, _, h => by
    rw [join_cons2]
    exact fld_app (h a (by simp)) (fld_join hx (b :: l) (by simp) (fun w hw => h w (by simp [hw]))) hx
theorem fld_word {s : Str} (h0 : s ≠ []) (h : ∀ c ∈ s, 33 ≤ c.toNat ∧ c.toNat ≤ 126) : fldB s := by
  refine ⟨h0, fun c hc => ⟨by have := (h c hc).1; omega, (h c hc).2⟩, fun e => ?_, fun e => ?_⟩
  · have := (h 32 (List.mem_of_head? e)).1; revert this; decide
  · have := (h 32 (List.mem_of_getLast? e)).1; revert this; decide
theorem mem_join {c : UInt8} {sep : Str} : ∀ {l : List Str}, c ∈ Lib.join l sep → c ∈ sep ∨ ∃ w ∈ l, c ∈ w
  | [], h => by simp [Lib.join] at h
  | [a], h => by rw [Lib.join_one] at h; exact .inr ⟨a, by simp, h⟩
  | a :: b :: l, h => by
    rw [join_cons2, List.mem_append, List.mem_append] at h
    rcases h with (h | h) | h
    · exact .inr ⟨a, by simp, h⟩
    · exact .inl h
    · rcases mem_join h with h | ⟨w, hw, h⟩
      · exact .inl h
      · exact .inr ⟨w, by simp [hw], h⟩
/-! ### the words -/
theorem parts_split (s : ByteArray) : (partsOf s).map bl = splitL 46 (bl s) := by
  unfold partsOf
  rw [← splitK_eq 46 (bl s).length (bl s) (Nat.le_refl _)]
  exact Lib.splitB_data ⟨#[46]⟩ 0 _ s
theorem bad_range : ∀ c : UInt8, badB c.toNat = false → 33 ≤ c.toNat ∧ c.toNat ≤ 126 ∧ c.toNat ≠ 46 := all_u8 (by decide +kernel)
theorem name_ok {g : ByteArray} (h : nameErr g = 0) : g.size ≤ 80 ∧ bl g ≠ [] ∧ ∀ c ∈ bl g, 33 ≤ c.toNat ∧ c.toNat ≤ 126 := by
  unfold nameErr at h
  by_cases h1 : 80 < g.size
  · rw [if_pos h1] at h; cases h
  rw [if_neg h1] at h
  by_cases h2 : ((partsOf g).any fun p => !compB p) = true
  · rw [if_pos h2] at h; cases h
  have hp : ∀ p ∈ partsOf g, compB p = true := fun p hp => by
    cases hc : compB p with
    | true => rfl
    | false => exact absurd (List.any_eq_true.2 ⟨p, hp, by simp [hc]⟩) h2
  have hw : ∀ w ∈ splitL 46 (bl g), w ≠ [] ∧ ∀ c ∈ w, 33 ≤ c.toNat ∧ c.toNat ≤ 126 := fun w hw => by
    rw [← parts_split] at hw
    obtain ⟨p, hm, rfl⟩ := List.mem_map.1 hw
    have hc := hp p hm
    unfold compB at hc
    simp only [Bool.and_eq_true, decide_eq_true_eq, Bool.not_eq_true', List.any_eq_false] at hc
    obtain ⟨⟨⟨c1, _⟩, _⟩, c4⟩ := hc
    refine ⟨fun e => ?_, fun c hcm => ?_⟩
    · have := bl_length p; rw [e] at this; simp at this; omega
    · have := bad_range c (by simpa using c4 c hcm); omega
  refine ⟨by omega, fun e => ?_, fun c hc => ?_⟩
  · rw [e] at hw; exact (hw [] (by simp [splitL])).1 rfl
  · rw [← join_split 46 (bl g)] at hc
    rcases mem_join hc with h | ⟨w, hm, h⟩
    · rw [List.mem_singleton] at h; subst h; decide
    · exact (hw w hm).2 c h
theorem u8_of {a b : Nat} {c : UInt8} (h1 : UInt8.ofNat a < c) (h2 : c < UInt8.ofNat b) (ha : a < 256) (hb : b < 256) : a < c.toNat ∧ c.toNat < b := by
  rw [UInt8.lt_iff_toNat_lt, UInt8.toNat_ofNat'] at h1 h2
  omega
theorem fld_hex {l : List UInt8} (h : l ≠ []) : fldB (hexT l) := by
  refine fld_word (fun e => ?_) (hexT_all (p := fun c => 33 ≤ c.toNat ∧ c.toNat ≤ 126) (fun i hi => ?_) l)
  · have := hexT_len l; rw [e] at this; exact h (List.length_eq_zero_iff.1 (by simp at this; omega))
  · obtain ⟨_, _, _, _, h1, h2⟩ := hexD_at i hi
    have := u8_of (a := 32) (b := 127) h1 h2 (by decide) (by decide); omega
theorem mem_hex {l : List UInt8} {c : UInt8} (hc : c ∈ hexT l) : 33 ≤ c.toNat ∧ c.toNat ≤ 126 :=
  hexT_all (p := fun c => 33 ≤ c.toNat ∧ c.toNat ≤ 126) (fun i hi => by
    obtain ⟨_, _, _, _, h1, h2⟩ := hexD_at i hi
    have := u8_of (a := 32) (b := 127) h1 h2 (by decide) (by decide); omega) l c hc
theorem fld_mid (i : Id) : fldB (midT i) := by
  refine fld_word (by unfold midT; simp) (fun c hc => ?_)
  unfold midT at hc
  rw [List.mem_cons, List.mem_append] at hc
  rcases hc with rfl | hc | hc
  · decide
  · exact mem_hex hc
  · have : ∀ c ∈ midTail, 33 ≤ c.toNat ∧ c.toNat ≤ 126 := by decide
    exact this c hc
theorem fld_kind (k : Int) (h1 : 1 ≤ k) (h5 : k ≤ 5) : fldB (bl (kindS k)) ∧ (bl (kindS k)).length ≤ 7 := by
  have hk : k = 1 ∨ k = 2 ∨ k = 3 ∨ k = 4 ∨ k = 5 := by omega
  rcases hk with rfl | rfl | rfl | rfl | rfl
  all_goals exact ⟨fld_word (by decide) (by decide), by decide⟩
theorem itoa_nat (n : Int) (h : 0 ≤ n) : bl (itoaS n) = Lib.decDigits n.toNat := by
  unfold itoaS; rw [bl_bs, Lib.itoa, if_neg (by omega)]
theorem fld_itoa (n : Int) (h : 0 ≤ n) (h2 : n ≤ 1000000) : fldB (bl (itoaS n)) ∧ (bl (itoaS n)).length ≤ 7 := by
  rw [itoa_nat n h]
  refine ⟨fld_word (dec_ne _) (fun c hc => ?_), dec_len 6 n.toNat (by omega)⟩
  have := List.all_eq_true.1 (dec_isD n.toNat n.toNat (Nat.le_refl _)) c hc
  unfold isD at this
  simp only [Bool.and_eq_true, decide_eq_true_eq] at this
  omega
theorem fld_auts {l : List Aut} (h : l ≠ []) (h8 : l.length ≤ 8) : fldB (Lib.join (l.map fun a => hexT a.toList) [44]) ∧ (Lib.join (l.map fun a => hexT a.toList) [44]).length ≤ 264 := by
  constructor
  · refine fld_join (by decide) _ (by simpa using h) (fun w hw => ?_)
    obtain ⟨a, _, rfl⟩ := List.mem_map.1 hw
    exact fld_hex (fun e => by have := congrArg List.length e; simp at this)
  · have gen : ∀ l : List Aut, (Lib.join (l.map fun a => hexT a.toList) [44]).length ≤ 33 * l.length := by
      intro l
      induction l with
      | nil => simp [Lib.join]
      | cons a l ih =>
        cases l with
        | nil => rw [List.map_cons, List.map_nil, Lib.join_one, hexT_len]; simp
        | cons b l =>
          rw [List.map_cons, List.map_cons, join_cons2, ← List.map_cons (f := fun a : Aut => hexT a.toList), List.length_append, List.length_append, hexT_len]
          simp only [List.length_cons, List.length_nil, Vector.length_toList] at ih ⊢
          omega
    have := gen l; omega
theorem fld_mode {c : Cm} (h : modeErr c = 0) : fldB (bl (modeS c)) ∧ (bl (modeS c)).length ≤ 274 := by
  unfold modeS
  by_cases hm : c.moderated = true
  · rw [if_pos hm]
    unfold modeErr modsErr at h
    rw [if_neg (by rw [hm]; decide)] at h
    by_cases h0 : c.mods.length = 0
    · rw [if_pos h0] at h; cases h
    rw [if_neg h0] at h
    by_cases h8 : 8 < c.mods.length
    · rw [if_pos h8] at h; cases h
    obtain ⟨f1, f2⟩ := fld_auts (l := c.mods) (fun e => h0 (by rw [e]; rfl)) (by omega)
    refine ⟨?_, ?_⟩
    · have := fld_app (a := modT) (x := 32) (fld_word (by decide) (by decide)) f1 (by decide)
      rw [List.append_assoc] at this; exact this
    · rw [bl_bs, List.length_append, List.length_cons]
      have : modT.length = 9 := rfl
      omega
  · rw [if_neg hm]; exact ⟨fld_word (by decide) (by decide), by decide⟩
theorem fld_text {s : Str} (h : textErr s = 0) (h0 : s ≠ []) : fldB s ∧ s.length ≤ 200 := by
  unfold textErr at h
  by_cases h1 : 200 < s.length
  · rw [if_pos h1] at h; cases h
  rw [if_neg h1] at h
  by_cases h2 : (s.any fun c => decide (c < 32) || decide (126 < c)) = true
  · rw [if_pos h2] at h; cases h
  rw [if_neg h2] at h
  by_cases h3 : s.head? = some 32 ∨ s.getLast? = some 32
  · rw [if_pos h3] at h; cases h
  refine ⟨⟨h0, fun c hc => ?_, fun e => h3 (.inl e), fun e => h3 (.inr e)⟩, by omega⟩
  have := mt (fun q => List.any_eq_true.2 ⟨c, hc, q⟩) h2
  simp only [Bool.or_eq_true, decide_eq_true_eq, not_or, UInt8.lt_iff_toNat_lt] at this
  have e1 : (32 : UInt8).toNat = 32 := rfl
  have e2 : (126 : UInt8).toNat = 126 := rfl
  omega
theorem b64_range : ∀ c : UInt8, b64B c = true → 33 ≤ c.toNat ∧ c.toNat ≤ 126 := all_u8 (by decide +kernel)
theorem fld_pub (h : Int) (r : Aut) : fldB (pubT h r) ∧ (pubT h r).length ≤ 24 := by
  unfold pubT
  obtain ⟨t, p, e, ht, _, hp, hl⟩ := enc_shape (UInt8.ofNat h.toNat :: r.toList)
  simp only [List.length_cons, Vector.length_toList] at hl
  have h23 : t.length = 23 := by omega
  rw [e]
  unfold padT
  rw [h23]
  refine ⟨fld_word (fun q => ?_) (fun c hc => ?_), by rw [List.length_append, List.length_replicate, h23]; decide⟩
  · have := congrArg List.length q; rw [List.length_append, h23] at this; simp at this
  · rw [List.mem_append, List.mem_replicate] at hc
    rcases hc with hc | ⟨_, rfl⟩
    · exact b64_range c (List.all_eq_true.1 ht c hc)
    · decide
theorem cm_good {c : Cm} (h : cmErr c = 0) : 1 ≤ c.kind ∧ c.kind ≤ 5 ∧ foreign c = false := by
  have hk : 1 ≤ c.kind ∧ c.kind ≤ 5 := Decidable.byContradiction fun q => by have := (errK q).1; rw [h] at this; cases this
  refine ⟨hk.1, hk.2, ?_⟩
  cases hf : foreign c with
  | false => rfl
  | true => have := errF hk.1 hk.2 hf; rw [h] at this; cases this
theorem height_good {h : Int} (e : heightErr h = 0) : 1 ≤ h ∧ h ≤ 8 := by
  unfold heightErr at e
  by_cases q : h < 1 ∨ 8 < h
  · rw [if_pos q] at e; cases e
  · omega
theorem join2 (a b : Str) (s : Str) : Lib.join [a, b] s = a ++ s ++ b := by rw [join_cons2, Lib.join_one]
/-- What a command without an error holds, kind by kind. -/
theorem good2 {t : Id} {g : ByteArray} {n : Int} {m : Bool} {l : List Aut} {tx : ByteArray} {nu ht : Int} {r : Aut} (h : cmErr ⟨2, t, g, n, m, l, tx, nu, ht, r⟩ = 0) : nameErr g = 0 := by
  rw [err2 _ _ _ _ _ _ _ _ _ (cm_good h).2.2] at h
  by_cases h1 : t = zId
  · rw [if_pos h1] at h; cases h
  rw [if_neg h1] at h
  by_cases h2 : nameErr g ≠ 0
  · rw [if_pos h2] at h; cases h
  · exact Decidable.byContradiction h2
theorem good4 {t : Id} {g : ByteArray} {n : Int} {m : Bool} {l : List Aut} {tx : ByteArray} {nu ht : Int} {r : Aut} (h : cmErr ⟨4, t, g, n, m, l, tx, nu, ht, r⟩ = 0) : nameErr g = 0 ∧ 0 ≤ n ∧ n ≤ 1000000 := by
  rw [err4 _ _ _ _ _ _ _ _ _ (cm_good h).2.2] at h
  by_cases h2 : nameErr g ≠ 0
  · rw [if_pos h2] at h; cases h
  rw [if_neg h2] at h
  by_cases h3 : n < 0 ∨ 1000000 < n
  · rw [if_pos h3] at h; cases h
  · exact ⟨Decidable.byContradiction h2, by omega, by omega⟩
theorem good3 {t : Id} {g : ByteArray} {n : Int} {m : Bool} {l : List Aut} {tx : ByteArray} {nu ht : Int} {r : Aut} (h : cmErr ⟨3, t, g, n, m, l, tx, nu, ht, r⟩ = 0) : nameErr g = 0 ∧ 0 ≤ n ∧ n ≤ 1000000 ∧ modeErr ⟨3, t, g, n, m, l, tx, nu, ht, r⟩ = 0 ∧ textErr (bl tx) = 0 := by
  rw [err3 _ _ _ _ _ _ _ _ _ (cm_good h).2.2] at h
  by_cases h2 : nameErr g ≠ 0
  · rw [if_pos h2] at h; cases h
  rw [if_neg h2] at h
  by_cases h3 : n < 0 ∨ 1000000 < n
  · rw [if_pos h3] at h; cases h
  rw [if_neg h3] at h
  by_cases h4 : modeErr ⟨3, t, g, n, m, l, tx, nu, ht, r⟩ ≠ 0
  · rw [if_pos h4] at h; exact absurd h h4
  · rw [if_neg h4] at h
    exact ⟨Decidable.byContradiction h2, by omega, by omega, Decidable.byContradiction h4, h⟩
theorem good5 {t : Id} {g : ByteArray} {n : Int} {m : Bool} {l : List Aut} {tx : ByteArray} {nu ht : Int} {r : Aut} (h : cmErr ⟨5, t, g, n, m, l, tx, nu, ht, r⟩ = 0) : 1 ≤ nu ∧ nu ≤ 1000 ∧ 1 ≤ ht ∧ ht ≤ 8 := by
  rw [err5 _ _ _ _ _ _ _ _ _ (cm_good h).2.2] at h
  by_cases h2 : nu < 1 ∨ 1000 < nu
  · rw [if_pos h2] at h; cases h
  rw [if_neg h2] at h
  have := height_good h
  omega
theorem fld_name {g : ByteArray} (h : nameErr g = 0) : fldB (bl g) ∧ (bl g).length ≤ 80 := by
  obtain ⟨h1, h2, h3⟩ := name_ok h
  exact ⟨fld_word h2 h3, by rw [bl_length]; exact h1⟩
theorem print_fld {c : Cm} (h : cmErr c = 0) : fldB (printS c) ∧ (printS c).length ≤ 900 := by
  have hs : 32 ≤ (32 : UInt8).toNat ∧ (32 : UInt8).toNat ≤ 126 := by decide
  obtain ⟨k, t, g, n, m, l, tx, nu, ht, r⟩ := c
  obtain ⟨k1, k5, _⟩ := cm_good h
  simp only at k1 k5
  have hk : k = 1 ∨ k = 2 ∨ k = 3 ∨ k = 4 ∨ k = 5 := by omega
  rcases hk with rfl | rfl | rfl | rfl | rfl
  · obtain ⟨a1, a2⟩ := fld_kind 1 (by decide) (by decide)
    have e : printS ⟨1, t, g, n, m, l, tx, nu, ht, r⟩ = Lib.join [bl (kindS 1), midT t] [32] := rfl
    rw [e, join2]
    refine ⟨fld_app a1 (fld_mid t) hs, ?_⟩
    rw [List.length_append, List.length_append, midT_len]; simp; omega
  · obtain ⟨a1, a2⟩ := fld_kind 2 (by decide) (by decide)
    obtain ⟨b1, b2⟩ := fld_name (good2 h)
    have e : printS ⟨2, t, g, n, m, l, tx, nu, ht, r⟩ = Lib.join [bl (kindS 2), midT t, bl g] [32] := rfl
    rw [e, join_cons2, join2]
    refine ⟨fld_app a1 (fld_app (fld_mid t) b1 hs) hs, ?_⟩
    simp only [List.length_append, midT_len, List.length_singleton]; omega
  · obtain ⟨a1, a2⟩ := fld_kind 3 (by decide) (by decide)
    obtain ⟨g1, g2, g3, g4, g5⟩ := good3 h
    obtain ⟨b1, b2⟩ := fld_name g1
    obtain ⟨c1, c2⟩ := fld_itoa n g2 g3
    obtain ⟨d1, d2⟩ := fld_mode g4
    by_cases h0 : tx = ⟨#[]⟩
    · have e : printS ⟨3, t, g, n, m, l, tx, nu, ht, r⟩ = Lib.join [bl (kindS 3), bl g, bl (itoaS n), bl (modeS ⟨3, t, g, n, m, l, tx, nu, ht, r⟩)] [32] := by subst h0; rfl
      rw [e, join_cons2, join_cons2, join2]
      refine ⟨fld_app a1 (fld_app b1 (fld_app c1 d1 hs) hs) hs, ?_⟩
      simp only [List.length_append, List.length_singleton]; omega
    · obtain ⟨e1, e2⟩ := fld_text g5 (fun q => h0 (bl_inj q))
      have e : printS ⟨3, t, g, n, m, l, tx, nu, ht, r⟩ = Lib.join [bl (kindS 3), bl g, bl (itoaS n), bl (modeS ⟨3, t, g, n, m, l, tx, nu, ht, r⟩), bl tx] [32] := by
        unfold printS wordsP; rw [if_neg (by show ¬ (3 : Int) = 1; decide), if_neg (by show ¬ (3 : Int) = 2; decide), if_pos rfl, if_neg h0]; rfl
      rw [e, join_cons2, join_cons2, join_cons2, join2]
      refine ⟨fld_app a1 (fld_app b1 (fld_app c1 (fld_app d1 e1 hs) hs) hs) hs, ?_⟩
      simp only [List.length_append, List.length_singleton]; omega
  · obtain ⟨a1, a2⟩ := fld_kind 4 (by decide) (by decide)
    obtain ⟨g1, g2, g3⟩ := good4 h
    obtain ⟨b1, b2⟩ := fld_name g1
    obtain ⟨c1, c2⟩ := fld_itoa n g2 g3
    have e : printS ⟨4, t, g, n, m, l, tx, nu, ht, r⟩ = Lib.join [bl (kindS 4), bl g, bl (itoaS n)] [32] := rfl
    rw [e, join_cons2, join2]
    refine ⟨fld_app a1 (fld_app b1 c1 hs) hs, ?_⟩
    simp only [List.length_append, List.length_singleton]; omega
  · obtain ⟨a1, a2⟩ := fld_kind 5 (by decide) (by decide)
    obtain ⟨g1, g2, g3, g4⟩ := good5 h
    obtain ⟨c1, c2⟩ := fld_itoa nu (by omega) (by omega)
    obtain ⟨d1, d2⟩ := fld_pub ht r
    have e : printS ⟨5, t, g, n, m, l, tx, nu, ht, r⟩ = Lib.join [bl (kindS 5), bl (itoaS nu), pubT ht r] [32] := rfl
    rw [e, join_cons2, join2]
    refine ⟨fld_app a1 (fld_app c1 d1 hs) hs, ?_⟩
    simp only [List.length_append, List.length_singleton]; omega
end Go.Proofs.YtcjacgjeiljfgaaGreatDoor

namespace Go.Proofs.YtcjacgjeiljfgaaGreatDoor
open Go.RowKit

/-- The tables. -/
structure Tabs (w : World) : Prop where
  env : Env w
  alph : Alph w
  pow : Lib.TabIs Tryz.prog w "internal/strconv.uint64pow10" .u64 Lib.pow10Tab
theorem gPow : Tryz.prog.globalNamed "internal/strconv.uint64pow10" = some 2 := by kernel_rfl
theorem tabIs_gr {w w' : World} {k : IntKind} {zs : List Int} (h : Lib.TabIs Tryz.prog w "internal/strconv.uint64pow10" k zs) (hg : Gr w w') : Lib.TabIs Tryz.prog w' "internal/strconv.uint64pow10" k zs :=
  Lib.tabBelow_of_tabIs h w' hg
theorem Tabs.gr {w w' : World} (h : Tabs w) (hg : Gr w w') : Tabs w' := ⟨h.env.gr hg, h.alph.gr hg, tabIs_gr h.pow hg⟩
theorem Tabs.itoa {w : World} (h : Tabs w) {n : Int} (h0 : -9223372036854775808 ≤ n) (h1 : n ≤ 9223372036854775807) : ItoaAt w n := fun U hU =>
  (Tryz.strconv_Itoa n h0 h1 U (tabIs_gr h.pow hU)).mono fun e w' ⟨he, k, os, hw⟩ => ⟨he, by rw [hw]; exact (lay_lw U ⟨k, os⟩).1⟩
set_option maxRecDepth 100000 in
set_option maxHeartbeats 2000000 in
theorem printErrC (c : Cm) (v : Value) (w : World) (hE : Env w) (hv : AutsAt w v c.mods) (hl : c.mods.length ≤ 1000000) (htx : c.text.size ≤ 9223372036854775807) (he : cmErr c ≠ 0) :
    Calls Tryz.prog 5 #[.agg (cmC c v).toArray] w fun e w' => e = .returned (.tuple #[.string ⟨#[]⟩, .int .i64 (cmErr c)]) ∧ Gr w w' := by
  have g0 := (Gr.refl w).alloc (.cells (cmC c v).toArray 38)
  have HCK := Lib.hid (cmCheckC c v _ (hE.gr g0) (hv.gr g0) hl htx)
  have hb := heap_alloc_new w (.cells (cmC c v).toArray 38)
  have hne : (cmErr c != 0) = true := by simp [he]
  have hne2 : (cmErr c == 0) = false := by simp [he]
  have G0 := Lib.hid g0
  clear g0 hE hv hl htx hb
  generalize cmErr c = er at *
  go_enter Tryz.func5, Tryz.ntmps5
  go_wp2_with fail
  refine HCK.out.mono ?_
  rintro e U ⟨rfl, hg1⟩
  have G1 := Lib.hid (G0.out.trans hg1)
  clear hg1 HCK
  go_wp2_with fail
  go_ret2
  exact ⟨rfl, G1.out⟩
/-- What Print returns. -/
def prS (c : Cm) : Str := if cmErr c = 0 then printS c else []
theorem printC (c : Cm) (v : Value) (w : World) (hT : Tabs w) (hv : AutsAt w v c.mods) (hl : c.mods.length ≤ 1000) (htx : c.text.size ≤ 1000000) :
    Calls Tryz.prog 5 #[.agg (cmC c v).toArray] w fun e w' => e = .returned (.tuple #[.string (bs (prS c)), .int .i64 (cmErr c)]) ∧ Gr w w' := by
  by_cases he : cmErr c = 0
  · have hp : prS c = printS c := by unfold prS; rw [if_pos he]
    have hlen : (printS c).length ≤ 1000000 := by have := (print_fld he).2; omega
    rw [hp, he]
    obtain ⟨k, t, g, n, m, l, tx, nu, ht, r⟩ := c
    obtain ⟨k1, k5, _⟩ := cm_good he
    simp only at k1 k5 hl htx hv
    have hk : k = 1 ∨ k = 2 ∨ k = 3 ∨ k = 4 ∨ k = 5 := by omega
    rcases hk with rfl | rfl | rfl | rfl | rfl
    · exact print1C t g n m l tx nu ht r v w hT.env hv (by omega) (by omega) he hlen
    · exact print2C t g n m l tx nu ht r v w hT.env hv (by omega) (by omega) he hlen
    · obtain ⟨g1, g2, g3, g4, g5⟩ := good3 he
      refine print3C t g n m l tx nu ht r v w hT.env hv (by omega) (by omega) he (hT.itoa (by omega) (by omega)) (fun U hU => ?_) hlen
      cases m with
      | false => exact modeOpenC _ v U rfl
      | true => exact modeTextC _ v U rfl (hv.gr hU) hl
    · obtain ⟨g1, g2, g3⟩ := good4 he
      exact print4C t g n m l tx nu ht r v w hT.env hv (by omega) (by omega) he (hT.itoa (by omega) (by omega)) hlen
    · obtain ⟨g1, g2, g3, g4⟩ := good5 he
      exact print5C t g n m l tx nu ht r v w hT.env hv (by omega) (by omega) he (hT.itoa (by omega) (by omega)) hT.alph g3 g4 hlen
  · have hp : bs (prS c) = ⟨#[]⟩ := by unfold prS; rw [if_neg he]; rfl
    rw [hp]
    exact printErrC c v w hT.env hv (by omega) (by omega) he
end Go.Proofs.YtcjacgjeiljfgaaGreatDoor

/- canonical's checker: when, take, text, squeezed, leaves. article.CheckBody of an empty body. Small parts of a content: lists of one group, no references, no control text, numbers. An article's content as a row of cells, and its parts. A content in memory; Content.Check of the example's contents. canonical.keyText of the example's contents. strings.Builder: copyCheck, WriteString, String. -/
import Derived.Test.YteknmbijodbfoaaGreatDoorBX
import Derived.Test.YteknmbijodbfoaaGreatDoorBU
import Derived.Test.YteknmbijodbfoaaGreatDoorBE
import Derived.Test.YteknmbijodbfoaaGreatDoorBA
import Derived.Test.YteknmbijodbfoaaGreatDoorBB
import Derived.Shelf.Strings.Builder1
namespace Go.Proofs.YteknmbijodbfoaaGreatDoor
open Go.RowKit

def CkAt (W : World) (kb : Nat) (e : Int) : Prop := W.heap[kb]? = some (.cells #[.int .i64 e] 105 (0, 0))
theorem CkAt.gr {W W' : World} {kb : Nat} {e : Int} (h : CkAt W kb e) (hg : Gr W W') : CkAt W' kb e := (hg.block (lt_of_heap h)).trans h
def whenV (e : Int) (bad : Bool) (x : Int) : Int := if e = 0 ∧ bad = true then x else e
def CkPost (kb : Nat) (e' : Int) (W : World) (x : Ending) (W' : World) : Prop := x = .returned (.tuple #[]) ∧ CkAt W' kb e' ∧ W.grownBy W' (some kb)
set_option maxRecDepth 100000 in
set_option maxHeartbeats 1000000 in
theorem whenC (kb : Nat) (e : Int) (bad : Bool) (x : Int) (W : World) (h : CkAt W kb e) : Calls Tryz.prog 68 #[.pointer (some ⟨kb, 0, none⟩), .bool bad, .int .i64 x] W (CkPost kb (whenV e bad x) W) := by
  have c0 : W.cell? ⟨kb, 0, none⟩ = some (.int .i64 e) := cell_block (cs := [.int .i64 e]) h 0
  have f0 := free_block (cs := [.int .i64 e]) h 0
  have z0 := lt_of_heap h
  have H := Lib.hid h
  clear h
  by_cases he : e = 0
  · subst he
    cases bad
    · have hv : Hid (whenV 0 false x = 0) := by show _ = _; unfold whenV; rw [if_neg (by simp)]
      go_enter Tryz.func68, Tryz.ntmps68
      go_wp2_with fail
      refine bodyPost_endU (fn := Tryz.f68) rfl rfl ?_
      exact ⟨rfl, by rw [hv.out]; exact H.out, grown_refl _ _⟩
    · have hv : Hid (whenV 0 true x = x) := by show _ = _; unfold whenV; rw [if_pos ⟨rfl, rfl⟩]
      go_enter Tryz.func68, Tryz.ntmps68
      go_wp2_with fail
      refine bodyPost_endU (fn := Tryz.f68) rfl rfl ?_
      refine ⟨rfl, ?_, grown_set _ _ _ _⟩
      rw [hv.out]
      show _ = _
      rw [heap_setCell_same _ kb 0 _ _ _ H.out]; simp
  · have hv : Hid (whenV e bad x = e) := by show _ = _; unfold whenV; rw [if_neg (fun h => he h.1)]
    have h2 : (e == 0) = false := beq_eq_false_iff_ne.2 he
    have h3 : decide (e = 0) = false := decide_eq_false he
    go_enter Tryz.func68, Tryz.ntmps68
    go_wp2_with fail
    refine bodyPost_endU (fn := Tryz.f68) rfl rfl ?_
    exact ⟨rfl, by rw [hv.out]; exact H.out, grown_refl _ _⟩
set_option maxRecDepth 100000 in
set_option maxHeartbeats 1000000 in
theorem takeCk (kb : Nat) (e : Int) (x : Int) (W : World) (h : CkAt W kb e) : Calls Tryz.prog 43 #[.pointer (some ⟨kb, 0, none⟩), .int .i64 x] W (CkPost kb (whenV e true x) W) := by
  have HW := Lib.hid (whenC kb e true x W h)
  clear h
  go_enter Tryz.func43, Tryz.ntmps43
  go_wp2_with (go_at_call 68; refine HW.out.mono ?_; rintro e1 w1 ⟨rfl, h1, h2⟩)
  refine bodyPost_endU (fn := Tryz.f43) rfl rfl ?_
  exact ⟨rfl, h1, h2⟩
def sqB (s : ByteArray) : Bool := !Lib.hasPrefix s.data.toList [32] && (!Lib.hasSuffix s.data.toList [32] && !Lib.contains s.data.toList [32, 32])
set_option maxRecDepth 100000 in
set_option maxHeartbeats 1000000 in
theorem squeezedC (s : ByteArray) (w : World) (hs : s.size ≤ 1000000) (hE : Env w) : Calls Tryz.prog 90 #[.string s] w fun e w' => e = .returned (.bool (sqB s)) ∧ w = w' := by
  obtain ⟨m, hm⟩ := hE
  have H1 : Hid (∀ W, Calls Tryz.prog 116 #[.string s, .string ⟨#[32]⟩] W fun e w' => e = .returned (.bool (Lib.hasPrefix s.data.toList [32])) ∧ w' = W) := fun W => Tryz.strings_HasPrefix s ⟨#[32]⟩ W
  have H2 : Hid (∀ W, Calls Tryz.prog 117 #[.string s, .string ⟨#[32]⟩] W fun e w' => e = .returned (.bool (Lib.hasSuffix s.data.toList [32])) ∧ w' = W) := fun W => Tryz.strings_HasSuffix s ⟨#[32]⟩ W (by omega)
  have H3 : Hid (Calls Tryz.prog 118 #[.string s, .string ⟨#[32, 32]⟩] w fun e w' => e = .returned (.bool (Lib.contains s.data.toList [32, 32])) ∧ w' = w) := Tryz.strings_Contains s ⟨#[32, 32]⟩ m w (by omega) hm
  unfold sqB
  generalize Lib.hasPrefix s.data.toList [32] = p at *
  generalize Lib.hasSuffix s.data.toList [32] = q at *
  generalize Lib.contains s.data.toList [32, 32] = r at *
  cases p <;> cases q
  all_goals
    go_enter Tryz.func90, Tryz.ntmps90
    go_wp2_with (first
      | (go_at_call 116; refine (H1.out _).mono ?_; rintro e w' ⟨rfl, rfl⟩)
      | (go_at_call 117; refine (H2.out _).mono ?_; rintro e w' ⟨rfl, rfl⟩)
      | (go_at_call 118; refine H3.out.mono ?_; rintro e w' ⟨rfl, rfl⟩))
    go_ret
    exact ⟨by simp, rfl⟩
def textV (e : Int) (s : ByteArray) (most : Int) : Int := whenV (whenV (whenV e (decide (most < (s.size : Int))) 5) (!prB (bl s)) 6) (!sqB s) 3
set_option maxRecDepth 100000 in
set_option maxHeartbeats 1000000 in
theorem textCk (kb : Nat) (e : Int) (s : ByteArray) (most : Int) (W : World) (h : CkAt W kb e) (hs : s.size ≤ 1000000) (hE : Env W) (hne : 5 ≠ kb) : Calls Tryz.prog 69 #[.pointer (some ⟨kb, 0, none⟩), .string s, .int .i64 most] W (CkPost kb (textV e s most) W) := by
  have H1 := Lib.hid (whenC kb e (decide (most < (s.size : Int))) 5 W h)
  have HEn : Hid (∀ W', W.grownBy W' (some kb) → Env W') := fun W' hg => by
    obtain ⟨m, hm⟩ := hE
    exact ⟨m, grown_cell hg hm (by simp; exact fun h => hne h.symm)⟩
  have HT : Hid (whenV (whenV (whenV e (decide (most < (s.size : Int))) 5) (!prB (bl s)) 6) (!sqB s) 3 = textV e s most) := rfl
  clear h hE
  go_enter Tryz.func69, Tryz.ntmps69
  go_wp2_with fail
  refine H1.out.mono ?_
  rintro e1 w1 ⟨rfl, c1, g1⟩
  go_wp2_with fail
  refine (print_any s w1 (by omega)).mono ?_
  rintro e2 w2 ⟨rfl, hg2⟩
  go_wp2_with fail
  refine (whenC kb _ (!prB (bl s)) 6 w2 (c1.gr hg2)).mono ?_
  rintro e3 w3 ⟨rfl, c3, g3⟩
  have G3 := Lib.hid (grown_trans (grown_trans g1 (grown_gr (row := some kb) hg2)) g3)
  go_wp2_with fail
  refine (squeezedC s w3 hs (HEn.out _ G3.out)).mono ?_
  rintro e4 w4 ⟨rfl, rfl⟩
  go_wp2_with fail
  refine (whenC kb _ (!sqB s) 3 w3 c3).mono ?_
  rintro e5 w5 ⟨rfl, c5, g5⟩
  go_wp2_with fail
  refine bodyPost_endU (fn := Tryz.f69) rfl rfl ?_
  exact ⟨rfl, by rw [← HT.out]; exact c5, grown_trans G3.out g5⟩
set_option maxRecDepth 100000 in
set_option maxHeartbeats 1000000 in
theorem leavesPC (r : V16) (w : World) : Calls Tryz.prog 73 #[.agg (pubC 1 r).toArray] w fun e w' => e = .returned (.int .i64 2) ∧ Gr w w' := by
  obtain ⟨n, hn⟩ : ∃ n, w.heap.size = n := ⟨_, rfl⟩
  have HB : Hid ((w.alloc (.cells (pubC 1 r).toArray 31)).heap[n]? = some (.cells (pubC 1 r).toArray 31 (0, 0))) := heap_new _ _ _ hn.symm
  have HG : Hid (Gr w (w.alloc (.cells (pubC 1 r).toArray 31))) := (Gr.refl w).alloc _
  have HCK : Hid (∀ W, Calls Tryz.prog 14 #[.agg (pubC 1 r).toArray] W fun e w' => e = .returned (.int .i64 0) ∧ Gr W w') := fun W => pubCheckC 1 r W
  obtain ⟨p0, p1, p2, p3, p4, p5⟩ := pub_facts HB.out
  have b7 := pubC_one 1 r
  have b8 := pubC_length 1 r
  go_enter Tryz.func73, Tryz.ntmps73
  go_wp2_with (go_at_call 14; refine (HCK.out _).mono ?_; rintro e w1 ⟨rfl, hg1⟩; have k0 := (hg1.block (lt_of_heap HB.out)).trans HB.out; clear p0 p1 p2 p3 p4 p5; obtain ⟨p0, p1, p2, p3, p4, p5⟩ := pub_facts k0)
  go_ret
  exact ⟨rfl, HG.out.trans hg1⟩
set_option maxRecDepth 100000 in
set_option maxHeartbeats 1000000 in
theorem distNoneC (kb : Nat) (e : Int) (W : World) (h : CkAt W kb e) : Calls Tryz.prog 72 #[.pointer (some ⟨kb, 0, none⟩), .string ⟨#[]⟩] W (CkPost kb e W) := by
  have H1 : Hid (Calls Tryz.prog 68 #[.pointer (some ⟨kb, 0, none⟩), .bool false, .int .i64 5] W (CkPost kb e W)) := by
    have := whenC kb e false 5 W h
    rw [show whenV e false 5 = e by unfold whenV; rw [if_neg (by simp)]] at this; exact this
  clear h
  go_enter Tryz.func72, Tryz.ntmps72
  go_wp2_with fail
  refine H1.out.mono ?_
  rintro e1 w1 ⟨rfl, c1, g1⟩
  go_wp2_with fail
  refine wp_loop_rounds 1 ?_
  rw [rounds_succ]
  go_wp2_with fail
  refine bodyPost_endU (fn := Tryz.f72) rfl rfl ?_
  exact ⟨rfl, c1, g1⟩
end Go.Proofs.YteknmbijodbfoaaGreatDoor

namespace Go.Proofs.YteknmbijodbfoaaGreatDoor
open Go.RowKit Go.Shelf
attribute [local go_sem] Oper.semAt_some

theorem lines_any (s : ByteArray) (w : World) :
    Calls Tryz.prog 95 #[.string s] w fun e w' => e = .returned (.func (.func 122) #[] #[.pointer (some ⟨w.heap.size, 0, none⟩)]) ∧ w' = w.alloc (.cells #[.string s] 9) := by
  go_enter Tryz.func95, Tryz.ntmps95
  go_wp2
  go_ret
  exact ⟨rfl, rfl⟩
set_option maxRecDepth 100000 in
set_option maxHeartbeats 2000000 in
theorem lines0_in (n : Nat) (l Bs : Nat) (J Jx : List (Nat × ByteArray) → World → Prop) (W : World) (hBs : Boxed W Bs 9 (.string ⟨#[]⟩)) (h0 : J [] W) :
    CallsIn Fence.wide n Tryz.prog 122 #[.func (.yield l) #[] #[], .pointer (some ⟨Bs, 0, none⟩)] W fun e W' => (∃ v, e = .returned v) ∧
      ((∃ ys, ys = ([] : List (Nat × ByteArray)) ∧ J ys W') ∨ (∃ pre, pre <+: ([] : List (Nat × ByteArray)) ∧ Jx pre W')) := by
  refine callsIn_of_wp Tryz.func122 rfl trivial ?_ rfl
  simp only [Tryz.ntmps122, List.size_toArray, List.length_cons, List.length_nil, Nat.reduceAdd, Nat.reduceSub, Array.replicate_succ, Array.replicate_zero, List.push_toArray, List.append_toArray, List.nil_append, List.cons_append]
  have hc := hBs.cell
  gi_wp2
  refine wpIn_loop_rounds 1 ?_
  rw [roundsIn_succ]
  gi_wp2
  refine bodyPost_end (results_none rfl _ _ _) rfl ?_
  exact ⟨⟨_, rfl⟩, .inl ⟨_, rfl, h0⟩⟩
theorem lines_stops (n : Nat) (Bs : Nat) (w : World) (hBs : Boxed w Bs 9 (.string ⟨#[]⟩)) :
    SeqStopsK Fence.wide n Tryz.prog 122 #[.pointer (some ⟨Bs, 0, none⟩)] (fun x : Nat × ByteArray => #[Value.int .i64 (x.1 : Int), Value.string x.2]) (KeepsBlock Bs) (fun ys => ys = []) (fun pre => pre <+: []) 0 w :=
  fun l J Jx W hW _ _ _ h0 => lines0_in n l Bs J Jx W (show W.heap[Bs]? = _ by rw [hW.block Bs hBs.lt]; exact hBs) h0
set_option maxRecDepth 100000 in
set_option maxHeartbeats 2000000 in
theorem body0_in (w : World) (n : Nat) (hn : 3 ≤ n) :
    CallsIn Fence.wide n Tryz.prog 74 #[.string ⟨#[]⟩] w fun e w' => e = .returned (.tuple #[.int .i64 0, .int .i64 0]) ∧ Gr w w' := by
  have h1 : 1 ≤ n := by omega
  refine callsIn_of_wp_marks Tryz.func74 rfl trivial ?_ rfl
  simp only [Tryz.ntmps74, List.size_toArray, List.length_cons, List.length_nil, Nat.reduceAdd, Nat.reduceSub, Array.replicate_succ, Array.replicate_zero, List.push_toArray, List.append_toArray, List.nil_append, List.cons_append]
  gi_wp2_with fail
  refine ⟨trivial, ?_⟩
  refine (callsIn_wide.2 (lines_any ⟨#[]⟩ _)).mono ?_
  rintro e w2 ⟨rfl, rfl⟩
  gi_wp2_with fail
  obtain ⟨b, hb⟩ : ∃ b, w.heap.size = b := ⟨_, rfl⟩
  have hB0 : Below w.heap.size w (((((w.alloc (.cells #[.string ⟨#[]⟩] 9)).alloc (.cells #[.int .i64 0] 3)).alloc (.cells #[.int .i64 0] 32)).alloc (.cells #[.int .i64 0] 3)).alloc (.cells #[.string ⟨#[]⟩] 9)) := (((((Gr.refl w).alloc _).alloc _).alloc _).alloc _).alloc _
  have hsz : (((((w.alloc (.cells #[.string ⟨#[]⟩] 9)).alloc (.cells #[.int .i64 0] 3)).alloc (.cells #[.int .i64 0] 32)).alloc (.cells #[.int .i64 0] 3)).alloc (.cells #[.string ⟨#[]⟩] 9)).heap.size = b + 1 + 1 + 1 + 1 + 1 := by simp; omega
  have hR1 : Boxed (((((w.alloc (.cells #[.string ⟨#[]⟩] 9)).alloc (.cells #[.int .i64 0] 3)).alloc (.cells #[.int .i64 0] 32)).alloc (.cells #[.int .i64 0] 3)).alloc (.cells #[.string ⟨#[]⟩] 9)) (b + 1) 3 (.int .i64 0) := (((((Gr.refl _).alloc _).alloc _).alloc _).block (by simp; omega)).trans (heap_new _ _ _ (by simp; omega))
  have hR2 : Boxed (((((w.alloc (.cells #[.string ⟨#[]⟩] 9)).alloc (.cells #[.int .i64 0] 3)).alloc (.cells #[.int .i64 0] 32)).alloc (.cells #[.int .i64 0] 3)).alloc (.cells #[.string ⟨#[]⟩] 9)) (b + 1 + 1) 32 (.int .i64 0) := ((((Gr.refl _).alloc _).alloc _).block (by simp; omega)).trans (heap_new _ _ _ (by simp; omega))
  have hbS : Boxed (((((w.alloc (.cells #[.string ⟨#[]⟩] 9)).alloc (.cells #[.int .i64 0] 3)).alloc (.cells #[.int .i64 0] 32)).alloc (.cells #[.int .i64 0] 3)).alloc (.cells #[.string ⟨#[]⟩] 9)) (b + 1 + 1 + 1 + 1) 9 (.string ⟨#[]⟩) := heap_new _ _ _ (by simp; omega)
  rw [hb]
  generalize ((((w.alloc (.cells #[.string ⟨#[]⟩] 9)).alloc (.cells #[.int .i64 0] 3)).alloc (.cells #[.int .i64 0] 32)).alloc (.cells #[.int .i64 0] 3)).alloc (.cells #[.string ⟨#[]⟩] 9) = W0 at *
  refine wpIn_rangeFunc_ownG rfl h1 (gf := 122) (lb := #[.pointer (some ⟨b + 1 + 1 + 1 + 1, 0, none⟩)]) rfl trivial (enters_of Tryz.func122 (by kernel_rfl) rfl)
    (lines_stops (n - 1) (b + 1 + 1 + 1 + 1) W0 hbS) keepsBlock_t (keepsBlock_b (by omega)) (Below.refl _ _) (fun _ => rfl)
    (fun _ W => (Boxed W (b + 1) 3 (.int .i64 0) ∧ Boxed W (b + 1 + 1) 32 (.int .i64 0)) ∧ Below w.heap.size w W)
    (fun _ _ _ => False)
    (OwnFrom.and (OwnFrom.and (Own.from (boxed_own (b + 1) 3 (fun _ : List (Nat × ByteArray) => .int .i64 0)) _) (Own.from (boxed_own (b + 1 + 1) 32 (fun _ : List (Nat × ByteArray) => .int .i64 0)) _)) (ownFrom_below (Nat.le_refl _) (by omega)))
    (fun _ _ _ _ _ hs _ _ => hs)
    ⟨⟨hR1, hR2⟩, hB0⟩
    (fun x => { tmps := #[.string ⟨#[]⟩, .pointer (some ⟨b, 0, none⟩), .pointer (some ⟨b + 1, 0, none⟩), .pointer (some ⟨b + 1 + 1, 0, none⟩), .pointer (some ⟨b + 1 + 1 + 1, 0, none⟩), undef, .string x.2, undef, undef, .string ⟨#[]⟩, .func (.func 122) #[] #[.pointer (some ⟨b + 1 + 1 + 1 + 1, 0, none⟩)], .int .i64 (x.1 : Int), .string x.2, undef, undef, undef, undef, undef, undef, undef, undef, undef, undef, undef, undef, undef, undef, undef, undef, undef, undef, undef, undef, undef, undef, undef, undef], defers := [] }) ?assign ?body ?done ?stop
  case assign =>
    intro l x W K hK
    gi_wp2
    exact hK
  case body =>
    rintro l pre x W _ hlt
    exact absurd hlt (Nat.not_lt_zero _)
  case done =>
    rintro D ys W hD rfl ⟨⟨hx, hy⟩, hB⟩ hK
    have hc := hx.cell
    have hf := hx.frozen
    have hc2 := hy.cell
    have hf2 := hy.frozen
    gi_wp2
    have k1 : ((W.setCell ⟨b + 1, 0, none⟩ (.int .i64 0)).setCell ⟨b + 1 + 1, 0, none⟩ (.int .i64 0)).heap[D]? = some (.deferred (some [])) := by
      rw [heap_setCell_other _ ⟨b + 1 + 1, 0, none⟩ D _ (by show D ≠ b + 1 + 1; omega), heap_setCell_other _ ⟨b + 1, 0, none⟩ D _ (by show D ≠ b + 1; omega)]; exact hK
    have x1 : ((W.setCell ⟨b + 1, 0, none⟩ (.int .i64 0)).setCell ⟨b + 1 + 1, 0, none⟩ (.int .i64 0)).cell? ⟨b + 1, 0, none⟩ = some (.int .i64 0) := cell_block (cs := [.int .i64 0]) (t := 3) (by
      rw [heap_setCell_other _ ⟨b + 1 + 1, 0, none⟩ (b + 1) _ (by show b + 1 ≠ b + 1 + 1; omega), heap_setCell_same _ (b + 1) 0 _ _ _ hx]; rfl) 0
    have x2 : ((W.setCell ⟨b + 1, 0, none⟩ (.int .i64 0)).setCell ⟨b + 1 + 1, 0, none⟩ (.int .i64 0)).cell? ⟨b + 1 + 1, 0, none⟩ = some (.int .i64 0) := cell_block (cs := [.int .i64 0]) (t := 32) (by
      rw [heap_setCell_same _ (b + 1 + 1) 0 _ _ _ ((heap_setCell_other _ ⟨b + 1, 0, none⟩ (b + 1 + 1) _ (by show b + 1 + 1 ≠ b + 1; omega)).trans hy)]; rfl) 0
    have hG : Gr w ((W.setCell ⟨b + 1, 0, none⟩ (.int .i64 0)).setCell ⟨b + 1 + 1, 0, none⟩ (.int .i64 0)) := (Gr.setOwn (b := b + 1) hB (by omega) _).setOwn (by omega) _
    generalize (W.setCell ⟨b + 1, 0, none⟩ (.int .i64 0)).setCell ⟨b + 1 + 1, 0, none⟩ (.int .i64 0) = W2 at *
    refine ⟨by simp, .inl ⟨_, _, rfl, run_takeDeferred k1, ?_⟩⟩
    have y1 := cell_kept x1 (grownBy_putObj' W2 D (.deferred none)) (fun r e => by cases e; exact ⟨_, k1, rfl⟩)
    have y2 := cell_kept x2 (grownBy_putObj' W2 D (.deferred none)) (fun r e => by cases e; exact ⟨_, k1, rfl⟩)
    refine ⟨.tuple #[.int .i64 0, .int .i64 0], ?_, rfl, Below.trans hG (belowK_b (w := w) (Nat.le_refl _) W2 D _ _ (by omega) k1 rfl rfl)⟩
    simp [results, Tryz.f74, go_sem, y1, y2]
  case stop =>
    rintro D c pre W hD hpre h hK
    exact h.elim
theorem body0C (w : World) : Calls Tryz.prog 74 #[.string ⟨#[]⟩] w fun e w' => e = .returned (.tuple #[.int .i64 0, .int .i64 0]) ∧ Gr w w' := callsIn_wide.1 (body0_in w 3 (by omega))
end Go.Proofs.YteknmbijodbfoaaGreatDoor

namespace Go.Proofs.YteknmbijodbfoaaGreatDoor
open Go.RowKit

def aS : ByteArray := ⟨#[97]⟩
theorem nameA : nameErr aS = 0 := by decide +kernel
set_option maxRecDepth 100000 in
set_option maxHeartbeats 2000000 in
theorem checkList1 (g c : Nat) (w : World) (hE : Env w) (hc : w.cell? ⟨g, 0, none⟩ = some (.string aS)) : Calls Tryz.prog 75 #[.slice (some ⟨g, 0, none⟩) 1 c] w fun e w' => e = .returned (.int .i64 0) ∧ Gr w w' := by
  have HN : Hid (Calls Tryz.prog 97 #[.string aS] w fun e w' => e = .returned (.int .i64 0) ∧ Gr w w') := by
    have := checkName aS w hE
    rw [nameA] at this; exact this
  have HCT : Hid (∀ (c : Nat) W, Calls Tryz.prog 98 #[.slice (some ⟨g, 0, none⟩) 0 c, .string aS] W fun e w' => e = .returned (.bool false) ∧ w' = W) := fun c W => Tryz.slices_Contains_string_empty _ c aS W
  have hs : aS.size = 1 := rfl
  generalize aS = s at *
  go_enter Tryz.func75, Tryz.ntmps75
  go_wp2_with fail
  refine wp_loop_rounds 2 ?_
  rw [rounds_succ]
  go_wp2_with (first
    | (go_at_call 97; refine HN.out.mono ?_; rintro e w1 ⟨rfl, hg1⟩)
    | (go_at_call 98; refine (HCT.out _ _).mono ?_; rintro e w' ⟨rfl, rfl⟩))
  rw [rounds_succ]
  go_wp2_with fail
  go_ret
  exact ⟨rfl, hg1⟩
set_option maxRecDepth 100000 in
set_option maxHeartbeats 2000000 in
theorem formatList1 (g c : Nat) (w : World) (hE : Env w) (hg : g < w.heap.size) (h1c : 1 ≤ c) (hc : w.cell? ⟨g, 0, none⟩ = some (.string aS)) : Calls Tryz.prog 45 #[.slice (some ⟨g, 0, none⟩) 1 c] w fun e w' => e = .returned (.tuple #[.string aS, .int .i64 0]) ∧ Gr w w' := by
  have HL := Lib.hid (checkList1 g c w hE hc)
  have HJ : Hid (∀ W, Gr w W → Calls Tryz.prog 76 #[.slice (some ⟨g, 0, none⟩) 1 c, .string ⟨#[44]⟩] W fun e w' => e = .returned (.string aS) ∧ Gr W w') := fun W hW =>
    (Tryz.strings_Join g 0 c [aS] ⟨#[44]⟩ W (fun j x hx => by
      have hlt := (List.getElem?_eq_some_iff.1 hx).1
      obtain rfl : j = 0 := by simp at hlt; exact hlt
      obtain rfl : aS = x := by simpa using hx
      exact (hW.cell (p := ⟨g, 0, none⟩) hg).trans hc) (Nat.lt_of_lt_of_le hg hW.size) (by simp) (by simpa using h1c) (by decide)).mono fun e w' h => ⟨h.1, h.2⟩
  generalize aS = s at *
  go_enter Tryz.func45, Tryz.ntmps45
  go_wp2_with (first
    | (go_at_call 75; refine HL.out.mono ?_; rintro e w1 ⟨rfl, hg1⟩)
    | (go_at_call 76; refine (HJ.out w1 hg1).mono ?_; rintro e w2 ⟨rfl, hg2⟩))
  go_ret2
  exact ⟨rfl, hg1.trans hg2⟩
set_option maxRecDepth 100000 in
set_option maxHeartbeats 2000000 in
theorem refsNone (w : World) : Calls Tryz.prog 70 #[.slice none 0 0] w fun e w' => e = .returned (.int .i64 0) ∧ Gr w w' := by
  have hmk : ∀ w, (Instr.makeMap 173 none).run Tryz.prog w = .ok (.map (some w.heap.size)) (w.alloc (.map #[] 0)) := fun w => by simp [Instr.makeMap]
  go_enter Tryz.func70, Tryz.ntmps70
  go_wp2_with fail
  refine wp_loop_rounds 1 ?_
  rw [rounds_succ]
  go_wp2_with fail
  go_ret
  exact ⟨rfl, (Gr.refl w).alloc _⟩
set_option maxRecDepth 100000 in
set_option maxHeartbeats 2000000 in
theorem refsPrintNone (w : World) : Calls Tryz.prog 46 #[.slice none 0 0] w fun e w' => e = .returned (.tuple #[.string ⟨#[]⟩, .int .i64 0]) ∧ Gr w w' := by
  have HR := Lib.hid (refsNone w)
  have HJ : Hid (∀ W, Calls Tryz.prog 76 #[.slice none 0 0, .string ⟨#[32]⟩] W fun e w' => e = .returned (.string ⟨#[]⟩) ∧ w' = W) := fun W => Tryz.strings_Join_none none 0 ⟨#[32]⟩ W
  go_enter Tryz.func46, Tryz.ntmps46
  go_wp2_with (go_at_call 70; refine HR.out.mono ?_; rintro e w1 ⟨rfl, hg1⟩)
  refine wp_loop_rounds 1 ?_
  rw [rounds_succ]
  go_wp2_with (go_at_call 76; refine (HJ.out _).mono ?_; rintro e w' ⟨rfl, rfl⟩)
  go_ret2
  exact ⟨rfl, hg1⟩
def zS : ByteArray := ⟨#[48]⟩
set_option maxHeartbeats 1000000 in
theorem digits0 (w : World) : Calls Tryz.prog 49 #[.int .i64 0] w fun e w' => e = .returned (.string zS) ∧ w = w' := by
  have HI : Hid (Calls Tryz.prog 79 #[.int .i64 0] w fun e w' => e = .returned (.string zS) ∧ w' = w) := by
    have h := Tryz.strconv_Itoa_small 0 (by decide) w
    rw [show Lib.decDigits 0 = [48] from Lib.decDigits_one (by decide)] at h
    exact h
  go_enter Tryz.func49, Tryz.ntmps49
  go_wp2_with (go_at_call 79; refine HI.out.mono ?_; rintro e w' ⟨rfl, rfl⟩)
  go_ret
  exact ⟨rfl, rfl⟩
set_option maxRecDepth 100000 in
set_option maxHeartbeats 1000000 in
theorem optNone (w : World) : Calls Tryz.prog 50 #[.agg (bC zId).toArray] w fun e w' => e = .returned (.string ⟨#[]⟩) ∧ Gr w w' := by
  obtain ⟨n, hn⟩ : ∃ n, w.heap.size = n := ⟨_, rfl⟩
  have HB : Hid ((w.alloc (.cells (bC zId).toArray 39)).heap[n]? = some (.cells (bC zId).toArray 39 (0, 0))) := heap_new _ _ _ hn.symm
  have HG : Hid (Gr w (w.alloc (.cells (bC zId).toArray 39))) := (Gr.refl w).alloc _
  have HI : Hid (∀ W, Calls Tryz.prog 80 #[.agg (bC zId).toArray] W fun e w' => e = .returned (.bool true) ∧ Gr W w') := fun W => by
    have := isZeroC zId W
    rw [show (zId == zId) = true by simp] at this; exact this
  have r0 := hasRow_block HB.out 0 32 (by simp [bC32_len])
  have r1 := (rowAt_block HB.out 0 32 (by simp [bC32_len])).trans (rowOf_all _ _ (bC32_len zId))
  have r2 := lt_of_heap HB.out
  have b1 := bC32_len zId
  have b2 := bC32_one zId
  go_enter Tryz.func50, Tryz.ntmps50
  go_wp2_with (go_at_call 80; refine (HI.out _).mono ?_; rintro e w1 ⟨rfl, hg1⟩)
  go_ret
  exact ⟨rfl, HG.out.trans hg1⟩
end Go.Proofs.YteknmbijodbfoaaGreatDoor

namespace Go.Proofs.YteknmbijodbfoaaGreatDoor
open Go.RowKit

structure Ctt where
  name : ByteArray
  author : Aut
  date : Int
  groups : Value
  subject : ByteArray
  refs : Value
  sup : Id
  control : ByteArray
  dist : ByteArray
  number : Int
  height : Int
  root : Aut
  leaf : Int
  body : ByteArray
def cttC (c : Ctt) : List Value := [.string c.name] ++ (bC c.author ++ ([.int .i64 c.date, c.groups, .string c.subject, c.refs] ++ (bC c.sup ++ ([.string c.control, .string c.dist, .int .i64 c.number] ++ (pubC c.height c.root ++ [.int .i64 c.leaf, .string c.body])))))
def CttGood (c : Ctt) : Prop := (∃ a n k, c.groups = .slice a n k) ∧ (∃ a n k, c.refs = .slice a n k)
theorem cttC_length (c : Ctt) : (cttC c).length = 75 := by simp [cttC, bC_length, pubC_length]
section
variable (c : Ctt)
theorem ctt_author : rowOf (cttC c) 1 16 = bC c.author := by
  unfold cttC; rw [rowOf_app_r _ _ _ _ 1 rfl (by decide), rowOf_app_l _ _ _ (bC_length _)]
theorem ctt_lo (k : Nat) (h : 17 ≤ k) (h2 : k < 21) : (cttC c)[k]? = [Value.int .i64 c.date, c.groups, .string c.subject, c.refs][k - 17]? := by
  unfold cttC; rw [get_app_r _ _ _ 1 rfl (by omega), get_app_r _ _ _ 16 (bC_length _) (by omega), Nat.sub_sub, List.getElem?_append_left (by simp; omega)]
theorem ctt_hi (k : Nat) (h : 53 ≤ k) (h2 : k < 56) : (cttC c)[k]? = [Value.string c.control, .string c.dist, .int .i64 c.number][k - 53]? := by
  unfold cttC; rw [get_app_r _ _ _ 1 rfl (by omega), get_app_r _ _ _ 16 (bC_length _) (by omega), get_app_r _ _ _ 4 rfl (by omega), get_app_r _ _ _ 32 (bC_length _) (by omega), Nat.sub_sub, Nat.sub_sub, Nat.sub_sub, List.getElem?_append_left (by simp; omega)]
theorem ctt_date : (cttC c)[17]? = some (.int .i64 c.date) := ctt_lo c 17 (by decide) (by decide)
theorem ctt_groups : (cttC c)[18]? = some c.groups := ctt_lo c 18 (by decide) (by decide)
theorem ctt_refs : (cttC c)[20]? = some c.refs := ctt_lo c 20 (by decide) (by decide)
theorem ctt_control : (cttC c)[53]? = some (.string c.control) := ctt_hi c 53 (by decide) (by decide)
theorem ctt_whole : rowOf (cttC c) 0 75 = cttC c := rowOf_all _ _ (cttC_length c)
theorem ctt_date' (h : 17 < (cttC c).length) : (cttC c)[17] = .int .i64 c.date := get_of (ctt_date c) h
theorem ctt_groups' (h : 18 < (cttC c).length) : (cttC c)[18] = c.groups := get_of (ctt_groups c) h
theorem ctt_refs' (h : 20 < (cttC c).length) : (cttC c)[20] = c.refs := get_of (ctt_refs c) h
theorem ctt_control' (h : 53 < (cttC c).length) : (cttC c)[53] = .string c.control := get_of (ctt_control c) h
theorem ctt_one (hg : c.groups.oneCell' = true) (hr : c.refs.oneCell' = true) : oneB (cttC c) = true := by
  rw [cttC, oneB_append, oneB_append, oneB_append, oneB_append, oneB_append, oneB_append, oneB_bC, oneB_bC, oneB_pub]; simp only [oneB, List.all_cons, List.all_nil, hg, hr, Bool.and_true]; rfl
theorem ctt_setcontrol (s : ByteArray) : (cttC c).set 53 (.string s) = cttC { c with control := s } := by
  have h1 := bC_length c.author
  have h2 := bC_length c.sup
  unfold cttC
  rw [List.set_append_right _ _ (by simp), List.set_append_right _ _ (by simp; omega), h1, List.set_append_right _ _ (by simp), List.set_append_right _ _ (by simp; omega), h2]
  rfl
end
@[go_sem] theorem aggCtt : aggB Tryz.prog 41 = true := by kernel_rfl
@[go_sem] theorem cellsCtt : Tryz.prog.cellsOf 41 = 75 := by kernel_rfl
attribute [go_sem] ctt_date' ctt_groups' ctt_refs' ctt_control' cttC_length ctt_author ctt_whole
/-- The command that cancels a target. -/
def cmT (t : Id) : Cm := { cm0 1 with target := t }
theorem cmT_err (t : Id) : cmErr (cmT t) = if t = zId then 1 else 0 := by
  have hf : foreign (cmT t) = false := by unfold foreign strip; simp [cmT, cm0]
  have hk : kindName (cmT t).kind ≠ [] := (by decide : kindName 1 ≠ [])
  unfold cmErr
  rw [if_neg hk, hf]
  simp [cmT, cm0]
end Go.Proofs.YteknmbijodbfoaaGreatDoor

namespace Go.Proofs.YteknmbijodbfoaaGreatDoor
open Go.RowKit

section
variable (c : Ctt)
theorem ctt_name : (cttC c)[0]? = some (.string c.name) := rfl
theorem ctt_subject : (cttC c)[19]? = some (.string c.subject) := ctt_lo c 19 (by decide) (by decide)
theorem ctt_dist : (cttC c)[54]? = some (.string c.dist) := ctt_hi c 54 (by decide) (by decide)
theorem ctt_number : (cttC c)[55]? = some (.int .i64 c.number) := ctt_hi c 55 (by decide) (by decide)
theorem ctt_sup : rowOf (cttC c) 21 32 = bC c.sup := by
  unfold cttC; rw [rowOf_app_r _ _ _ _ 1 rfl (by decide), rowOf_app_r _ _ _ _ 16 (bC_length _) (by decide), rowOf_app_r _ _ _ _ 4 rfl (by decide), rowOf_app_l _ _ _ (bC_length _)]
theorem ctt_pub : rowOf (cttC c) 56 17 = pubC c.height c.root := by
  unfold cttC; rw [rowOf_app_r _ _ _ _ 1 rfl (by decide), rowOf_app_r _ _ _ _ 16 (bC_length _) (by decide), rowOf_app_r _ _ _ _ 4 rfl (by decide), rowOf_app_r _ _ _ _ 32 (bC_length _) (by decide), rowOf_app_r _ _ _ _ 3 rfl (by decide), rowOf_app_l _ _ _ (pubC_length _ _)]
theorem ctt_tail (k : Nat) (h : 73 ≤ k) : (cttC c)[k]? = [Value.int .i64 c.leaf, .string c.body][k - 73]? := by
  unfold cttC
  rw [get_app_r _ _ _ 1 rfl (by omega), get_app_r _ _ _ 16 (bC_length _) (by omega), get_app_r _ _ _ 4 rfl (by omega), get_app_r _ _ _ 32 (bC_length _) (by omega), get_app_r _ _ _ 3 rfl (by omega), get_app_r _ _ _ 17 (pubC_length _ _) (by omega)]
  congr 1
theorem ctt_leaf : (cttC c)[73]? = some (.int .i64 c.leaf) := ctt_tail c 73 (by decide)
theorem ctt_body : (cttC c)[74]? = some (.string c.body) := ctt_tail c 74 (by decide)
end
@[go_sem] theorem ctt_name' (c : Ctt) (h : 0 < (cttC c).length) : (cttC c)[0] = .string c.name := rfl
structure CtFacts (W : World) (b : Nat) (c : Ctt) : Prop where
  name : W.cell? ⟨b, 0, none⟩ = some (.string c.name)
  au0 : hasRow W ⟨b, 1, none⟩ 16 = true
  au1 : rowAt W ⟨b, 1, none⟩ 16 = bC c.author
  date : W.cell? ⟨b, 17, none⟩ = some (.int .i64 c.date)
  groups : W.cell? ⟨b, 18, none⟩ = some c.groups
  subject : W.cell? ⟨b, 19, none⟩ = some (.string c.subject)
  refs : W.cell? ⟨b, 20, none⟩ = some c.refs
  su0 : hasRow W ⟨b, 21, none⟩ 32 = true
  su1 : rowAt W ⟨b, 21, none⟩ 32 = bC c.sup
  control : W.cell? ⟨b, 53, none⟩ = some (.string c.control)
  dist : W.cell? ⟨b, 54, none⟩ = some (.string c.dist)
  number : W.cell? ⟨b, 55, none⟩ = some (.int .i64 c.number)
  pu0 : hasRow W ⟨b, 56, none⟩ 17 = true
  pu1 : rowAt W ⟨b, 56, none⟩ 17 = pubC c.height c.root
  leaf : W.cell? ⟨b, 73, none⟩ = some (.int .i64 c.leaf)
  body : W.cell? ⟨b, 74, none⟩ = some (.string c.body)
  w0 : hasRow W ⟨b, 0, none⟩ 75 = true
  w1 : rowAt W ⟨b, 0, none⟩ 75 = cttC c
  z : b < W.heap.size
theorem ct_facts {W : World} {b : Nat} {c : Ctt} (h : W.heap[b]? = some (.cells (cttC c).toArray 41 (0, 0))) : CtFacts W b c :=
  ⟨(cell_block h 0).trans (ctt_name _), hasRow_block h 1 16 (by rw [cttC_length]; decide), (rowAt_block h 1 16 (by rw [cttC_length]; decide)).trans (ctt_author _), (cell_block h 17).trans (ctt_date _), (cell_block h 18).trans (ctt_groups _), (cell_block h 19).trans (ctt_subject _), (cell_block h 20).trans (ctt_refs _), hasRow_block h 21 32 (by rw [cttC_length]; decide), (rowAt_block h 21 32 (by rw [cttC_length]; decide)).trans (ctt_sup _), (cell_block h 53).trans (ctt_control _), (cell_block h 54).trans (ctt_dist _), (cell_block h 55).trans (ctt_number _), hasRow_block h 56 17 (by rw [cttC_length]; decide), (rowAt_block h 56 17 (by rw [cttC_length]; decide)).trans (ctt_pub _), (cell_block h 73).trans (ctt_leaf _), (cell_block h 74).trans (ctt_body _), hasRow_block h 0 75 (by rw [cttC_length]; decide), (rowAt_block h 0 75 (by rw [cttC_length]; decide)).trans (ctt_whole _), lt_of_heap h⟩
def eS : ByteArray := ⟨#[]⟩
/-- A content like the example's. -/
def ctK (a r : V16) (s : ByteArray) (g c : Nat) : Ctt := ⟨eS, a, 0, .slice (some ⟨g, 0, none⟩) 1 c, s, .slice none 0 0, zId, eS, eS, 0, 1, r, 0, eS⟩
theorem ctK_one (a r : V16) (s : ByteArray) (g c : Nat) : oneB (cttC (ctK a r s g c)) = true := ctt_one _ rfl rfl
set_option maxRecDepth 100000 in
set_option maxHeartbeats 1000000 in
theorem controlNone (kb : Nat) (c : Ctt) (hc : c.control = eS) (W : World) : Calls Tryz.prog 71 #[.pointer (some ⟨kb, 0, none⟩), .agg (cttC c).toArray] W fun e w' => e = .returned (.tuple #[]) ∧ Gr W w' := by
  have hb := heap_alloc_new W (.cells (cttC c).toArray 41)
  have c0 := (ct_facts hb).control
  rw [hc] at c0
  have c1 : (W.alloc (.cells (cttC c).toArray 41)).cell? ⟨W.heap.size, 53, none⟩ = some (.string ⟨#[]⟩) := c0
  have HG : Hid (Gr W (W.alloc (.cells (cttC c).toArray 41))) := (Gr.refl W).alloc _
  clear hb c0
  go_enter Tryz.func71, Tryz.ntmps71
  go_wp2_with fail
  refine bodyPost_ret (results_none rfl _ _ _) rfl ?_
  exact ⟨rfl, HG.out⟩
theorem textOK (s : ByteArray) (most : Int) (h1 : prB (bl s) = true) (h2 : sqB s = true) (h3 : (s.size : Int) ≤ most) : textV 0 s most = 0 := by
  unfold textV whenV
  rw [h1, h2, show decide (most < (s.size : Int)) = false from decide_eq_false (by omega)]
  simp
theorem whenF (e : Int) (x : Int) : whenV e false x = e := by unfold whenV; rw [if_neg (by simp)]
theorem whenZ (b : Bool) : whenV 0 b 0 = 0 := by unfold whenV; split <;> rfl
theorem pr_e : prB (bl eS) = true := by decide +kernel
theorem sq_e : sqB eS = true := by decide +kernel
set_option maxRecDepth 100000 in
set_option maxHeartbeats 4000000 in
theorem contentCheckK (a r : V16) (s : ByteArray) (g c : Nat) (h1 : prB (bl s) = true) (h2 : sqB s = true) (h3 : s.size ≤ 200) (h1c : 1 ≤ c) (w : World) (hE : Env w) (hm : 5 < w.heap.size) (hg : g < w.heap.size) (hgc : w.cell? ⟨g, 0, none⟩ = some (.string aS)) :
    Calls Tryz.prog 44 #[.agg (cttC (ctK a r s g c)).toArray] w fun e w' => e = .returned (.int .i64 0) ∧ Gr w w' := by
  obtain ⟨n, hn⟩ : ∃ n, w.heap.size = n := ⟨_, rfl⟩
  have HN := Lib.hid hn
  obtain ⟨k, hk⟩ : ∃ k, ctK a r s g c = k := ⟨_, rfl⟩
  have HKk := Lib.hid hk
  obtain ⟨U0, hU⟩ : ∃ U0, (w.alloc (.cells (cttC k).toArray 41)).alloc (.cells #[.int .i64 0] 105) = U0 := ⟨_, rfl⟩
  have H0 : Hid (U0.heap[n]? = some (.cells (cttC k).toArray 41 (0, 0))) := by
    show _ = _; rw [← hU]
    exact (((Gr.refl _).alloc _).block (by simp; omega)).trans (heap_new _ _ _ (by omega))
  have H1 : Hid (CkAt U0 (n + 1) 0) := by
    show _ = _; rw [← hU]
    exact heap_new _ _ _ (by simp; omega)
  have HG : Hid (Gr w U0) := by show Gr _ _; rw [← hU]; exact ((Gr.refl w).alloc _).alloc _
  have HEn : Hid (∀ W, U0.grownBy W (some (n + 1)) → Env W) := fun W hW => by
    obtain ⟨m, hmm⟩ := hE
    exact ⟨m, grown_cell hW ((HG.out.cell (p := ⟨5, 0, none⟩) hm).trans hmm) (by simp; omega)⟩
  have HGc : Hid (∀ W, U0.grownBy W (some (n + 1)) → W.cell? ⟨g, 0, none⟩ = some (.string aS) ∧ CtFacts W n k) := fun W hW => ⟨grown_cell hW ((HG.out.cell (p := ⟨g, 0, none⟩) hg).trans hgc) (by simp; omega), ct_facts (grown_block hW H0.out (by simp))⟩
  have HME : Hid (5 ≠ n + 1) := by show _ ≠ _; omega
  have T1 : Hid (∀ W, CkAt W (n + 1) 0 → Env W → Calls Tryz.prog 69 #[.pointer (some ⟨n + 1, 0, none⟩), .string eS, .int .i64 60] W (CkPost (n + 1) 0 W)) := fun W hc he => by
    have := textCk (n + 1) 0 eS 60 W hc (by decide) he HME.out
    rw [textOK eS 60 pr_e sq_e (by decide)] at this; exact this
  have T2 : Hid (∀ W, CkAt W (n + 1) 0 → Env W → Calls Tryz.prog 69 #[.pointer (some ⟨n + 1, 0, none⟩), .string s, .int .i64 200] W (CkPost (n + 1) 0 W)) := fun W hc he => by
    have := textCk (n + 1) 0 s 200 W hc (by omega) he HME.out
    rw [textOK s 200 h1 h2 (by omega)] at this; exact this
  have T3 : Hid (∀ x W, CkAt W (n + 1) 0 → Calls Tryz.prog 68 #[.pointer (some ⟨n + 1, 0, none⟩), .bool false, .int .i64 x] W (CkPost (n + 1) 0 W)) := fun x W hc => by
    have := whenC (n + 1) 0 false x W hc
    rw [whenF] at this; exact this
  have T4 : Hid (∀ W, CkAt W (n + 1) 0 → Calls Tryz.prog 43 #[.pointer (some ⟨n + 1, 0, none⟩), .int .i64 0] W (CkPost (n + 1) 0 W)) := fun W hc => by
    have := takeCk (n + 1) 0 0 W hc
    rw [whenZ] at this; exact this
  have T5 : Hid (∀ W, CkAt W (n + 1) 0 → Calls Tryz.prog 72 #[.pointer (some ⟨n + 1, 0, none⟩), .string eS] W (CkPost (n + 1) 0 W)) := fun W hc => distNoneC (n + 1) 0 W hc
  have T6 : Hid (∀ W, Calls Tryz.prog 71 #[.pointer (some ⟨n + 1, 0, none⟩), .agg (cttC k).toArray] W fun e w' => e = .returned (.tuple #[]) ∧ Gr W w') := fun W => controlNone (n + 1) k (by rw [← hk]; rfl) W
  have T7 : Hid (∀ W, Calls Tryz.prog 14 #[.agg (pubC 1 r).toArray] W fun e w' => e = .returned (.int .i64 0) ∧ Gr W w') := fun W => pubCheckC 1 r W
  have T8 : Hid (∀ W, Calls Tryz.prog 74 #[.string eS] W fun e w' => e = .returned (.tuple #[.int .i64 0, .int .i64 0]) ∧ Gr W w') := fun W => body0C W
  have k1 : k.name = eS := by rw [← hk]; rfl
  have k2 : k.date = 0 := by rw [← hk]; rfl
  have k3 : k.groups = .slice (some ⟨g, 0, none⟩) 1 c := by rw [← hk]; rfl
  have k4 : k.subject = s := by rw [← hk]; rfl
  have k5 : k.refs = .slice none 0 0 := by rw [← hk]; rfl
  have k6 : k.dist = eS := by rw [← hk]; rfl
  have k7 : k.number = 0 := by rw [← hk]; rfl
  have k8 : pubC k.height k.root = pubC 1 r := by rw [← hk]; rfl
  have k9 : k.leaf = 0 := by rw [← hk]; rfl
  have k10 : k.body = eS := by rw [← hk]; rfl
  have hes : eS.size = 0 := rfl
  rw [hk]
  replace hU := Lib.hid hU
  have p7 := pubC_one 1 r
  have p8 := pubC_length 1 r
  obtain ⟨gc, f⟩ := HGc.out U0 (grown_refl U0 _)
  obtain ⟨f1, f2, f3, f4, f5, f6, f7, f8, f9, f10, f11, f12, f13, f14, f15, f16, f17, f18, f19⟩ := f
  simp only [k1, k2, k3, k4, k5, k6, k7, k8, k9, k10] at f1 f2 f3 f4 f5 f6 f7 f8 f9 f10 f11 f12 f13 f14 f15 f16 f17 f18
  have b75 : oneB (cttC k) = true := by rw [← hk]; exact ctK_one a r s g c
  clear hk hE hgc
  generalize eS = ee at *
  go_enter Tryz.func44, Tryz.ntmps44
  go_wp2_with fail
  try simp only [hn]
  rw [hU.out]
  refine (T1.out U0 H1.out (HEn.out _ (grown_refl U0 _))).mono ?_
  rintro e1 w1 ⟨rfl, c1, g1⟩
  have G1 := Lib.hid (grown_trans (grown_refl U0 _) g1)
  have C1 := Lib.hid c1
  clear c1 g1
  clear gc f1 f2 f3 f4 f5 f6 f7 f8 f9 f10 f11 f12 f13 f14 f15 f16 f17 f18 f19
  obtain ⟨gc, f⟩ := HGc.out w1 G1.out
  obtain ⟨f1, f2, f3, f4, f5, f6, f7, f8, f9, f10, f11, f12, f13, f14, f15, f16, f17, f18, f19⟩ := f
  simp only [k1, k2, k3, k4, k5, k6, k7, k8, k9, k10] at f1 f2 f3 f4 f5 f6 f7 f8 f9 f10 f11 f12 f13 f14 f15 f16 f17 f18
  go_wp2_with fail
  refine (T3.out 13 w1 C1.out).mono ?_
  rintro e2 w2 ⟨rfl, c2, g2⟩
  have G2 := Lib.hid (grown_trans G1.out g2)
  have C2 := Lib.hid c2
  clear c2 g2
  clear gc f1 f2 f3 f4 f5 f6 f7 f8 f9 f10 f11 f12 f13 f14 f15 f16 f17 f18 f19
  obtain ⟨gc, f⟩ := HGc.out w2 G2.out
  obtain ⟨f1, f2, f3, f4, f5, f6, f7, f8, f9, f10, f11, f12, f13, f14, f15, f16, f17, f18, f19⟩ := f
  simp only [k1, k2, k3, k4, k5, k6, k7, k8, k9, k10] at f1 f2 f3 f4 f5 f6 f7 f8 f9 f10 f11 f12 f13 f14 f15 f16 f17 f18
  go_wp2_with fail
  refine (formatList1 g c w2 (HEn.out _ G2.out) (Nat.lt_of_lt_of_le hg (Nat.le_trans HG.out.size (G2.out).size)) h1c gc).mono ?_
  rintro e3 w3 ⟨rfl, g3⟩
  have G3 := Lib.hid (grown_trans G2.out (grown_gr (row := some (n + 1)) g3))
  have C3 := Lib.hid (CkAt.gr C2.out g3)
  clear g3
  clear gc f1 f2 f3 f4 f5 f6 f7 f8 f9 f10 f11 f12 f13 f14 f15 f16 f17 f18 f19
  obtain ⟨gc, f⟩ := HGc.out w3 G3.out
  obtain ⟨f1, f2, f3, f4, f5, f6, f7, f8, f9, f10, f11, f12, f13, f14, f15, f16, f17, f18, f19⟩ := f
  simp only [k1, k2, k3, k4, k5, k6, k7, k8, k9, k10] at f1 f2 f3 f4 f5 f6 f7 f8 f9 f10 f11 f12 f13 f14 f15 f16 f17 f18
  go_wp2_with fail
  refine (T4.out w3 C3.out).mono ?_
  rintro e4 w4 ⟨rfl, c4, g4⟩
  have G4 := Lib.hid (grown_trans G3.out g4)
  have C4 := Lib.hid c4
  clear c4 g4
  clear gc f1 f2 f3 f4 f5 f6 f7 f8 f9 f10 f11 f12 f13 f14 f15 f16 f17 f18 f19
  obtain ⟨gc, f⟩ := HGc.out w4 G4.out
  obtain ⟨f1, f2, f3, f4, f5, f6, f7, f8, f9, f10, f11, f12, f13, f14, f15, f16, f17, f18, f19⟩ := f
  simp only [k1, k2, k3, k4, k5, k6, k7, k8, k9, k10] at f1 f2 f3 f4 f5 f6 f7 f8 f9 f10 f11 f12 f13 f14 f15 f16 f17 f18
  go_wp2_with fail
  refine (T2.out w4 C4.out (HEn.out _ G4.out)).mono ?_
  rintro e5 w5 ⟨rfl, c5, g5⟩
  have G5 := Lib.hid (grown_trans G4.out g5)
  have C5 := Lib.hid c5
  clear c5 g5
  clear gc f1 f2 f3 f4 f5 f6 f7 f8 f9 f10 f11 f12 f13 f14 f15 f16 f17 f18 f19
  obtain ⟨gc, f⟩ := HGc.out w5 G5.out
  obtain ⟨f1, f2, f3, f4, f5, f6, f7, f8, f9, f10, f11, f12, f13, f14, f15, f16, f17, f18, f19⟩ := f
  simp only [k1, k2, k3, k4, k5, k6, k7, k8, k9, k10] at f1 f2 f3 f4 f5 f6 f7 f8 f9 f10 f11 f12 f13 f14 f15 f16 f17 f18
  go_wp2_with fail
  refine (refsNone w5).mono ?_
  rintro e6 w6 ⟨rfl, g6⟩
  have G6 := Lib.hid (grown_trans G5.out (grown_gr (row := some (n + 1)) g6))
  have C6 := Lib.hid (CkAt.gr C5.out g6)
  clear g6
  clear gc f1 f2 f3 f4 f5 f6 f7 f8 f9 f10 f11 f12 f13 f14 f15 f16 f17 f18 f19
  obtain ⟨gc, f⟩ := HGc.out w6 G6.out
  obtain ⟨f1, f2, f3, f4, f5, f6, f7, f8, f9, f10, f11, f12, f13, f14, f15, f16, f17, f18, f19⟩ := f
  simp only [k1, k2, k3, k4, k5, k6, k7, k8, k9, k10] at f1 f2 f3 f4 f5 f6 f7 f8 f9 f10 f11 f12 f13 f14 f15 f16 f17 f18
  go_wp2_with fail
  refine (T4.out w6 C6.out).mono ?_
  rintro e7 w7 ⟨rfl, c7, g7⟩
  have G7 := Lib.hid (grown_trans G6.out g7)
  have C7 := Lib.hid c7
  clear c7 g7
  clear gc f1 f2 f3 f4 f5 f6 f7 f8 f9 f10 f11 f12 f13 f14 f15 f16 f17 f18 f19
  obtain ⟨gc, f⟩ := HGc.out w7 G7.out
  obtain ⟨f1, f2, f3, f4, f5, f6, f7, f8, f9, f10, f11, f12, f13, f14, f15, f16, f17, f18, f19⟩ := f
  simp only [k1, k2, k3, k4, k5, k6, k7, k8, k9, k10] at f1 f2 f3 f4 f5 f6 f7 f8 f9 f10 f11 f12 f13 f14 f15 f16 f17 f18
  go_wp2_with fail
  refine (T6.out w7).mono ?_
  rintro e8 w8 ⟨rfl, g8⟩
  have G8 := Lib.hid (grown_trans G7.out (grown_gr (row := some (n + 1)) g8))
  have C8 := Lib.hid (CkAt.gr C7.out g8)
  clear g8
  clear gc f1 f2 f3 f4 f5 f6 f7 f8 f9 f10 f11 f12 f13 f14 f15 f16 f17 f18 f19
  obtain ⟨gc, f⟩ := HGc.out w8 G8.out
  obtain ⟨f1, f2, f3, f4, f5, f6, f7, f8, f9, f10, f11, f12, f13, f14, f15, f16, f17, f18, f19⟩ := f
  simp only [k1, k2, k3, k4, k5, k6, k7, k8, k9, k10] at f1 f2 f3 f4 f5 f6 f7 f8 f9 f10 f11 f12 f13 f14 f15 f16 f17 f18
  go_wp2_with fail
  refine (T5.out w8 C8.out).mono ?_
  rintro e9 w9 ⟨rfl, c9, g9⟩
  have G9 := Lib.hid (grown_trans G8.out g9)
  have C9 := Lib.hid c9
  clear c9 g9
  clear gc f1 f2 f3 f4 f5 f6 f7 f8 f9 f10 f11 f12 f13 f14 f15 f16 f17 f18 f19
  obtain ⟨gc, f⟩ := HGc.out w9 G9.out
  obtain ⟨f1, f2, f3, f4, f5, f6, f7, f8, f9, f10, f11, f12, f13, f14, f15, f16, f17, f18, f19⟩ := f
  simp only [k1, k2, k3, k4, k5, k6, k7, k8, k9, k10] at f1 f2 f3 f4 f5 f6 f7 f8 f9 f10 f11 f12 f13 f14 f15 f16 f17 f18
  go_wp2_with fail
  refine (T3.out 2 w9 C9.out).mono ?_
  rintro e10 w10 ⟨rfl, c10, g10⟩
  have G10 := Lib.hid (grown_trans G9.out g10)
  have C10 := Lib.hid c10
  clear c10 g10
  clear gc f1 f2 f3 f4 f5 f6 f7 f8 f9 f10 f11 f12 f13 f14 f15 f16 f17 f18 f19
  obtain ⟨gc, f⟩ := HGc.out w10 G10.out
  obtain ⟨f1, f2, f3, f4, f5, f6, f7, f8, f9, f10, f11, f12, f13, f14, f15, f16, f17, f18, f19⟩ := f
  simp only [k1, k2, k3, k4, k5, k6, k7, k8, k9, k10] at f1 f2 f3 f4 f5 f6 f7 f8 f9 f10 f11 f12 f13 f14 f15 f16 f17 f18
  go_wp2_with fail
  refine (T7.out w10).mono ?_
  rintro e11 w11 ⟨rfl, g11⟩
  have G11 := Lib.hid (grown_trans G10.out (grown_gr (row := some (n + 1)) g11))
  have C11 := Lib.hid (CkAt.gr C10.out g11)
  clear g11
  clear gc f1 f2 f3 f4 f5 f6 f7 f8 f9 f10 f11 f12 f13 f14 f15 f16 f17 f18 f19
  obtain ⟨gc, f⟩ := HGc.out w11 G11.out
  obtain ⟨f1, f2, f3, f4, f5, f6, f7, f8, f9, f10, f11, f12, f13, f14, f15, f16, f17, f18, f19⟩ := f
  simp only [k1, k2, k3, k4, k5, k6, k7, k8, k9, k10] at f1 f2 f3 f4 f5 f6 f7 f8 f9 f10 f11 f12 f13 f14 f15 f16 f17 f18
  go_wp2_with fail
  refine (T4.out w11 C11.out).mono ?_
  rintro e12 w12 ⟨rfl, c12, g12⟩
  have G12 := Lib.hid (grown_trans G11.out g12)
  have C12 := Lib.hid c12
  clear c12 g12
  clear gc f1 f2 f3 f4 f5 f6 f7 f8 f9 f10 f11 f12 f13 f14 f15 f16 f17 f18 f19
  obtain ⟨gc, f⟩ := HGc.out w12 G12.out
  obtain ⟨f1, f2, f3, f4, f5, f6, f7, f8, f9, f10, f11, f12, f13, f14, f15, f16, f17, f18, f19⟩ := f
  simp only [k1, k2, k3, k4, k5, k6, k7, k8, k9, k10] at f1 f2 f3 f4 f5 f6 f7 f8 f9 f10 f11 f12 f13 f14 f15 f16 f17 f18
  go_wp2_with fail
  have HLV : Hid (∀ p : GD, Calls Tryz.prog 73 #[.agg (pubC 1 r).toArray] (gw w12 p) fun e w'' => e = .returned (.int .i64 2) ∧ ∃ q : GD, w'' = gw w12 q) := fun p => gr_call (leavesPC r _)
  refine wp_region_tail 11 (fun u => ∃ q : GD, u = gw w12 q) (by kernel_rfl) (by kernel_rfl) (cg_drew w12) ?_
  simp only [List.take_succ_cons, List.take_zero, List.drop_succ_cons, List.drop_zero]
  repeat (go_big_quiet_step ((go_at_call 73; with_reducible exact HLV.out _)))
  refine wpQuiet_nil ?_
  rintro _ ⟨q, rfl⟩
  have G13 := Lib.hid (grown_trans G12.out (grown_gr (row := some (n + 1)) (gr_gw w12 q)))
  have C13 := Lib.hid (CkAt.gr C12.out (gr_gw w12 q))
  clear gc f1 f2 f3 f4 f5 f6 f7 f8 f9 f10 f11 f12 f13 f14 f15 f16 f17 f18 f19
  obtain ⟨gc, f⟩ := HGc.out _ G13.out
  obtain ⟨f1, f2, f3, f4, f5, f6, f7, f8, f9, f10, f11, f12, f13, f14, f15, f16, f17, f18, f19⟩ := f
  simp only [k1, k2, k3, k4, k5, k6, k7, k8, k9, k10] at f1 f2 f3 f4 f5 f6 f7 f8 f9 f10 f11 f12 f13 f14 f15 f16 f17 f18
  generalize gw w12 q = w13 at *
  go_wp2_with fail
  refine (T3.out 2 w13 C13.out).mono ?_
  rintro e14 w14 ⟨rfl, c14, g14⟩
  have G14 := Lib.hid (grown_trans G13.out g14)
  have C14 := Lib.hid c14
  clear c14 g14
  clear gc f1 f2 f3 f4 f5 f6 f7 f8 f9 f10 f11 f12 f13 f14 f15 f16 f17 f18 f19
  obtain ⟨gc, f⟩ := HGc.out w14 G14.out
  obtain ⟨f1, f2, f3, f4, f5, f6, f7, f8, f9, f10, f11, f12, f13, f14, f15, f16, f17, f18, f19⟩ := f
  simp only [k1, k2, k3, k4, k5, k6, k7, k8, k9, k10] at f1 f2 f3 f4 f5 f6 f7 f8 f9 f10 f11 f12 f13 f14 f15 f16 f17 f18
  go_wp2_with fail
  refine (T3.out 5 w14 C14.out).mono ?_
  rintro e15 w15 ⟨rfl, c15, g15⟩
  have G15 := Lib.hid (grown_trans G14.out g15)
  have C15 := Lib.hid c15
  clear c15 g15
  clear gc f1 f2 f3 f4 f5 f6 f7 f8 f9 f10 f11 f12 f13 f14 f15 f16 f17 f18 f19
  obtain ⟨gc, f⟩ := HGc.out w15 G15.out
  obtain ⟨f1, f2, f3, f4, f5, f6, f7, f8, f9, f10, f11, f12, f13, f14, f15, f16, f17, f18, f19⟩ := f
  simp only [k1, k2, k3, k4, k5, k6, k7, k8, k9, k10] at f1 f2 f3 f4 f5 f6 f7 f8 f9 f10 f11 f12 f13 f14 f15 f16 f17 f18
  go_wp2_with fail
  refine (T8.out w15).mono ?_
  rintro e16 w16 ⟨rfl, g16⟩
  have G16 := Lib.hid (grown_trans G15.out (grown_gr (row := some (n + 1)) g16))
  have C16 := Lib.hid (CkAt.gr C15.out g16)
  clear g16
  clear gc f1 f2 f3 f4 f5 f6 f7 f8 f9 f10 f11 f12 f13 f14 f15 f16 f17 f18 f19
  obtain ⟨gc, f⟩ := HGc.out w16 G16.out
  obtain ⟨f1, f2, f3, f4, f5, f6, f7, f8, f9, f10, f11, f12, f13, f14, f15, f16, f17, f18, f19⟩ := f
  simp only [k1, k2, k3, k4, k5, k6, k7, k8, k9, k10] at f1 f2 f3 f4 f5 f6 f7 f8 f9 f10 f11 f12 f13 f14 f15 f16 f17 f18
  go_wp2_with fail
  refine (T4.out w16 C16.out).mono ?_
  rintro e17 w17 ⟨rfl, c17, g17⟩
  have G17 := Lib.hid (grown_trans G16.out g17)
  have C17 := Lib.hid c17
  clear c17 g17
  clear gc f1 f2 f3 f4 f5 f6 f7 f8 f9 f10 f11 f12 f13 f14 f15 f16 f17 f18 f19
  obtain ⟨gc, f⟩ := HGc.out w17 G17.out
  obtain ⟨f1, f2, f3, f4, f5, f6, f7, f8, f9, f10, f11, f12, f13, f14, f15, f16, f17, f18, f19⟩ := f
  simp only [k1, k2, k3, k4, k5, k6, k7, k8, k9, k10] at f1 f2 f3 f4 f5 f6 f7 f8 f9 f10 f11 f12 f13 f14 f15 f16 f17 f18
  have c0 : w17.cell? ⟨n + 1, 0, none⟩ = some (.int .i64 0) := cell_block (cs := [.int .i64 0]) C17.out 0
  have z0 := lt_of_heap C17.out
  go_wp2_with fail
  go_ret
  exact ⟨rfl, HG.out.grown G17.out (fun k hk => by have h : n + 1 = k := Option.some.inj hk; have := HN.out; omega)⟩
end Go.Proofs.YteknmbijodbfoaaGreatDoor

namespace Go.Proofs.YteknmbijodbfoaaGreatDoor
open Go.RowKit

def keyS (r : V16) : ByteArray := zS ++ ⟨#[32]⟩ ++ bs (pubT 1 r)
set_option maxRecDepth 100000 in
set_option maxHeartbeats 2000000 in
theorem keyTextK (a r : V16) (s : ByteArray) (g c : Nat) (w : World) (hA : Alph w) (ht : (pubT 1 r).length = 24) : Calls Tryz.prog 47 #[.agg (cttC (ctK a r s g c)).toArray] w fun e w' => e = .returned (.tuple #[.string (keyS r), .int .i64 0]) ∧ Gr w w' := by
  obtain ⟨n, hn⟩ : ∃ n, w.heap.size = n := ⟨_, rfl⟩
  obtain ⟨k, hk⟩ : ∃ k, ctK a r s g c = k := ⟨_, rfl⟩
  rw [hk]
  have H0 : Hid ((w.alloc (.cells (cttC k).toArray 41)).heap[n]? = some (.cells (cttC k).toArray 41 (0, 0))) := heap_new _ _ _ hn.symm
  have HG : Hid (Gr w (w.alloc (.cells (cttC k).toArray 41))) := (Gr.refl w).alloc _
  have k7 : k.number = 0 := by rw [← hk]; rfl
  have k8 : pubC k.height k.root = pubC 1 r := by rw [← hk]; rfl
  have f := ct_facts H0.out
  have f1 := f.number
  have f2 := f.pu0
  have f3 := f.pu1
  have f4 := f.z
  rw [k7] at f1
  rw [k8] at f3
  have HT := Lib.hid (pubTextC 1 r _ (hA.gr HG.out) (by decide) (by decide))
  have HD := Lib.hid digits0
  have hsz : (bs (pubT 1 r)).size = 24 := by show (pubT 1 r).toArray.size = 24; rw [List.size_toArray, ht]
  have HKS : Hid (zS ++ ⟨#[32]⟩ ++ bs (pubT 1 r) = keyS r) := rfl
  have hz : zS.size = 1 := rfl
  generalize zS = zz at *
  generalize bs (pubT 1 r) = t at *
  have p7 := pubC_one 1 r
  have p8 := pubC_length 1 r
  clear f hA hk
  go_enter Tryz.func47, Tryz.ntmps47
  go_wp2_with (go_at_call 78; refine HT.out.mono ?_; rintro e w1 ⟨rfl, hg1⟩; have k0 := (hg1.block (lt_of_heap H0.out)).trans H0.out; have q1 := (ct_facts k0).number; have q2 := (ct_facts k0).z; rw [k7] at q1)
  refine (HD.out w1).mono ?_
  rintro e w' ⟨rfl, rfl⟩
  go_wp2_with fail
  go_ret2
  exact ⟨by rw [← HKS.out]; rfl, HG.out.trans hg1⟩
end Go.Proofs.YteknmbijodbfoaaGreatDoor

namespace Go.Proofs.YteknmbijodbfoaaGreatDoor
open Go.RowKit

theorem sizeBuilder : (Tryz.prog.info? 114).map (·.size) = some 2 := by kernel_rfl
theorem liesBuilder : liesAt Tryz.prog Tryz.prog.depth 114 (2 / Tryz.prog.cellsOf 114) 0 114 1 = true := by kernel_rfl
theorem infoByte : (Tryz.prog.info? 5).map (fun i => (i.zero, i.size, i.bytes)) = some (some (.int .u8 0), 1, 1) := by kernel_rfl

set_option maxHeartbeats 1000000 in
set_option maxRecDepth 100000 in
theorem copyCheck_used (b : Nat) (w : World) (h0 : w.cell? ⟨b, 0, none⟩ = some (.pointer (some ⟨b, 0, none⟩))) :
    Calls Tryz.prog 81 #[.pointer (some ⟨b, 0, none⟩)] w fun e w' => e = .returned (.tuple #[]) ∧ w' = w := by
  obtain ⟨j, hj, _⟩ := Option.map_eq_some_iff.1 sizeBuilder
  go_enter Tryz.func81, Tryz.ntmps81
  go_wp2
  rw [Lib.run_neq_ptr_same w _ Tryz.underlying112 hj]
  go_wp2
  go_end0
  exact ⟨rfl, rfl⟩

set_option maxHeartbeats 1000000 in
set_option maxRecDepth 100000 in
theorem copyCheck_fresh (b : Nat) (w : World) (h0 : w.cell? ⟨b, 0, none⟩ = some (.pointer none)) (hsh : w.shape? b = some (114, 2)) (hfz : w.frozen? ⟨b, 0, none⟩ = false) :
    Calls Tryz.prog 81 #[.pointer (some ⟨b, 0, none⟩)] w fun e w' => e = .returned (.tuple #[]) ∧ w' = w.setCell ⟨b, 0, none⟩ (.pointer (some ⟨b, 0, none⟩)) := by
  obtain ⟨j, hj, hjs⟩ := Option.map_eq_some_iff.1 sizeBuilder
  go_enter Tryz.func81, Tryz.ntmps81
  go_wp2
  rw [Lib.run_to_unsafe w ⟨b, 0, none⟩ Tryz.underlying112 Tryz.underlying189 hj (by rw [hjs]; decide) hsh (Nat.zero_lt_succ 1)]
  simp only [Result.andThen]
  rw [Oper.upon_value]
  go_wp2
  rw [run_callFunc_extern Tryz.func103 (by kernel_rfl) (by kernel_rfl) (by kernel_rfl) (e := Extern.AbiNoEscape.same) (by kernel_rfl)]
  rw [Lib.run_noEscape]
  simp only [Result.andThen]
  rw [Oper.upon_value]
  go_wp2
  rw [Lib.run_from_unsafe w ⟨b, 0, none⟩ Tryz.underlying189 Tryz.underlying112 hj hsh liesBuilder]
  simp only [Result.andThen]
  rw [Oper.upon_value]
  go_wp2
  go_end0
  exact ⟨rfl, rfl⟩

theorem copyCheck_any (B b : Nat) (bs : List Value) (w : World) (h : Lib.IsBuilder 114 5 B b bs w) :
    Calls Tryz.prog 81 #[.pointer (some ⟨b, 0, none⟩)] w fun e w' => e = .returned (.tuple #[]) ∧ (Lib.BuilderAt 114 5 B b (.pointer (some ⟨b, 0, none⟩)) bs w' ∧ Below B w w') := by
  rcases h with h | h
  · refine (copyCheck_fresh b w h.cell0 h.shape h.frozen0).mono ?_
    rintro e w' ⟨rfl, rfl⟩
    exact ⟨rfl, h.used _, (Below.refl B w).setCell (p := ⟨b, 0, none⟩) h.1 _⟩
  · refine (copyCheck_used b w h.cell0).mono ?_
    rintro e w' ⟨rfl, rfl⟩
    exact ⟨rfl, h, Below.refl B _⟩

set_option maxHeartbeats 2000000 in
set_option maxRecDepth 100000 in
/-- Builder.WriteString. -/
theorem writeString_any (B b : Nat) (bs : List Value) (s : ByteArray) (w : World) (h : Lib.IsBuilder 114 5 B b bs w) (hlen : bs.length + s.size ≤ 140737488355328) (hBw : B ≤ w.heap.size) :
    Calls Tryz.prog 51 #[.pointer (some ⟨b, 0, none⟩), .string s] w fun e w' => e = .returned (.tuple #[.int .i64 s.size, .nilIface]) ∧ (Lib.BuilderAt 114 5 B b (.pointer (some ⟨b, 0, none⟩)) (bs ++ Lib.strCells s) w' ∧ Below B w w') := by
  obtain ⟨i0, hi, hz0, hz1, hz2⟩ := info_parts infoByte
  go_enter Tryz.func51, Tryz.ntmps51
  go_wp2_with (go_at_call 81; refine (copyCheck_any B b bs _ h).mono ?_)
  rintro e w1 ⟨rfl, h1, hb1⟩
  obtain ⟨hB, v, hbk, hown, hne⟩ := h1
  have c0 : w1.cell? ⟨b, 0, none⟩ = some (.pointer (some ⟨b, 0, none⟩)) := by rw [Lib.cell_of_heap hbk]; rfl
  have c1 : w1.cell? ⟨b, 1, none⟩ = some v := by rw [Lib.cell_of_heap hbk]; rfl
  go_wp2_with (at_builtin; refine Lib.wpList_append_own_string _ rfl _ _ 60 9 rfl B 5 i0 Tryz.underlying60 Tryz.underlying9 hi hz0 hz1 hz2 _ _ _ rfl hown s rfl ?c3 ?c4 ?c5 ?_)
  case c3 => unfold maxLen; omega
  case c4 => omega
  case c5 => have := hb1.size; omega
  intro v' w2 hown' hgrow _
  have hlt : b < w1.heap.size := by
    rcases Nat.lt_or_ge b w1.heap.size with h' | h'
    · exact h'
    · simp [Array.getElem?_eq_none h'] at hbk
  have hb2 : w2.heap[b]? = some (.cells #[.pointer (some ⟨b, 0, none⟩), v] 114 (0, 0)) := by
    rw [hgrow.block b hlt (fun e => hne e.symm)]
    exact hbk
  have d0 : w2.cell? ⟨b, 0, none⟩ = some (.pointer (some ⟨b, 0, none⟩)) := by rw [Lib.cell_of_heap hb2]; rfl
  have d1 : w2.cell? ⟨b, 1, none⟩ = some v := by rw [Lib.cell_of_heap hb2]; rfl
  have f1 : w2.frozen? ⟨b, 1, none⟩ = false := Lib.frozen_of_heap hb2 1
  obtain ⟨ao, n', cap, rfl⟩ : ∃ ao n' cap, v' = .slice ao n' cap := by
    rcases hown'.2 with ⟨hv, _⟩ | ⟨g, cap, cur, hv, _⟩
    · exact ⟨_, _, _, hv⟩
    · exact ⟨_, _, _, hv⟩
  go_wp2
  go_ret2
  refine ⟨rfl, ?_, ?_⟩
  · exact Lib.BuilderAt.put (T := 114) (e := 5) hB hb2 (bs' := bs ++ Lib.strCells s) (by simpa [Lib.strCells_length] using hown') (by decide)
  · exact (hb1.grown hgrow (by have := hb1.size; omega) (fun k hk => (hown.lt k hk).1)).setCell (p := ⟨b, 1, none⟩) hB _

theorem IsBuilder.gr {w w' : World} (hg : Gr w w') {B b : Nat} {bs : List Value} (h : Lib.IsBuilder 114 5 B b bs w) : Lib.IsBuilder 114 5 B b bs w' := by
  have key : ∀ p, Lib.BuilderAt 114 5 B b p bs w → Lib.BuilderAt 114 5 B b p bs w' := by
    intro p h
    have hlt := h.lt
    obtain ⟨hB, v, hbk, hown, hne⟩ := h
    exact ⟨hB, v, by rw [Below.block hg b hlt]; exact hbk, World.ownsRow.kept hown hg.grownBy (by cases v.ownBlock <;> simp), hne⟩
  rcases h with h | h
  · exact .inl (key _ h)
  · exact .inr (key _ h)
theorem cells_bl (s : ByteArray) : Lib.strCells s = Lib.byteCells (bl s) := rfl

/-- A builder that holds the bytes l. -/
def BldAt (W : World) (B b : Nat) (l : List UInt8) : Prop := Lib.IsBuilder 114 5 B b (Lib.byteCells l) W
theorem BldAt.gr {W W' : World} {B b : Nat} {l : List UInt8} (h : BldAt W B b l) (hg : Gr W W') : BldAt W' B b l := IsBuilder.gr hg h
theorem writeC9 (B b : Nat) (l : List UInt8) (s : ByteArray) (w : World) (h : BldAt w B b l) (hlen : l.length + s.size ≤ 1000000) (hBw : B ≤ w.heap.size) :
    Calls Tryz.prog 51 #[.pointer (some ⟨b, 0, none⟩), .string s] w fun e w' => e = .returned (.tuple #[.int .i64 s.size, .nilIface]) ∧ BldAt w' B b (l ++ bl s) ∧ Below B w w' :=
  (writeString_any B b (Lib.byteCells l) s w h (by rw [Lib.byteCells_length]; omega) hBw).mono fun e w' ⟨h1, h2, h3⟩ => ⟨h1, .inr (by
    rw [cells_bl] at h2
    have e : Lib.byteCells (l ++ bl s) = Lib.byteCells l ++ Lib.byteCells (bl s) := by unfold Lib.byteCells; simp
    rw [e]; exact h2), h3⟩
theorem bldString (B b : Nat) (l : List UInt8) (w : World) (h : BldAt w B b l) (hBw : B ≤ w.heap.size) : Calls Tryz.prog 52 #[.pointer (some ⟨b, 0, none⟩)] w fun e w' => e = .returned (.string (bs l)) ∧ Below B w w' :=
  Tryz.Builder_String_any B b l w h hBw
theorem BldAt.new (w : World) (b : Nat) (hb : b = w.heap.size) : BldAt (w.alloc (.cells #[.pointer none, .slice none 0 0] 114)) b b [] :=
  .inl ⟨Nat.le_refl _, .slice none 0 0, heap_new _ _ _ hb, ⟨rfl, .inl ⟨rfl, rfl⟩⟩, by simp [Value.ownBlock]⟩
end Go.Proofs.YteknmbijodbfoaaGreatDoor

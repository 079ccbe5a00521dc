/- The contract of utf8.Truncate. -/
import Derived.Test.YtalommgkigacpaaDoorCount
namespace Go.Proofs.YtalommgkigacpaaDoor
open Go.RowKit Go.Shelf
attribute [local go_sem] Oper.semAt_some

/-- The last of the numbers that are at most m; 0 if there is none. -/
def lastLe (m : Int) (xs : List Nat) : Nat := xs.foldl (fun (e x : Nat) => if (x : Int) ≤ m then x else e) 0
theorem lastLe_snoc (m : Int) (xs : List Nat) (x : Nat) : lastLe m (xs ++ [x]) = if (x : Int) ≤ m then x else lastLe m xs := by
  unfold lastLe; rw [List.foldl_append]; rfl
theorem foldl_none (m : Int) : ∀ (r : List Nat) (e : Nat), (∀ x ∈ r, m < (x : Int)) → r.foldl (fun (e x : Nat) => if (x : Int) ≤ m then x else e) e = e
  | [], _, _ => rfl
  | x :: r, e, h => by
    rw [List.foldl_cons, if_neg (by have := h x (by simp); omega)]
    exact foldl_none m r e (fun y hy => h y (by simp [hy]))
theorem lastLe_stop (m : Int) (p r : List Nat) (x : Nat) (hs : (p ++ x :: r).Pairwise (· < ·)) (hx : m < (x : Int)) : lastLe m (p ++ x :: r) = lastLe m p := by
  unfold lastLe
  rw [List.foldl_append]
  apply foldl_none
  intro y hy
  rw [List.pairwise_append] at hs
  have h2 := hs.2.1
  rw [List.pairwise_cons] at h2
  rcases List.mem_cons.1 hy with e | e
  · subst e; exact hx
  · have := h2.1 y e; omega
theorem lastLe_mem (m : Int) (xs : List Nat) : lastLe m xs = 0 ∨ lastLe m xs ∈ xs := by
  have key : ∀ (r : List Nat) (e : Nat), r.foldl (fun (e x : Nat) => if (x : Int) ≤ m then x else e) e = e ∨ r.foldl (fun (e x : Nat) => if (x : Int) ≤ m then x else e) e ∈ r := by
    intro r
    induction r with
    | nil => intro e; exact .inl rfl
    | cons x r ih =>
      intro e
      rw [List.foldl_cons]
      by_cases h : (x : Int) ≤ m
      · rw [if_pos h]
        rcases ih x with h1 | h1
        · right; rw [h1]; simp
        · right; exact List.mem_cons_of_mem _ h1
      · rw [if_neg h]
        rcases ih e with h1 | h1
        · left; exact h1
        · right; exact List.mem_cons_of_mem _ h1
  exact key xs 0

theorem offOf_ge (l : List UInt8) : ∀ k, ∀ x ∈ offOf k l, k ≤ x ∧ x < k + l.length := by
  refine scan_ind (P := fun l => ∀ k, ∀ x ∈ offOf k l, k ≤ x ∧ x < k + l.length) ?_ ?_ ?_ l
  · intro k x hx; rw [offOf_nil] at hx; cases hx
  · intro l _ h k x hx; rw [offOf_bad k l h] at hx; cases hx
  · intro l h ih k x hx
    have hp := decN_pos l h
    have hle := decN_le l
    rw [offOf_good k l h] at hx
    rcases List.mem_cons.1 hx with e | e
    · subst e; omega
    · have := ih _ x e; rw [List.length_drop] at this; omega
theorem offOf_sorted (l : List UInt8) : ∀ k, (offOf k l).Pairwise (· < ·) := by
  refine scan_ind (P := fun l => ∀ k, (offOf k l).Pairwise (· < ·)) ?_ ?_ ?_ l
  · intro k; rw [offOf_nil]; exact List.Pairwise.nil
  · intro l _ h k; rw [offOf_bad k l h]; exact List.Pairwise.nil
  · intro l h ih k
    have hp := decN_pos l h
    rw [offOf_good k l h, List.pairwise_cons]
    refine ⟨fun x hx => ?_, ih _⟩
    have := offOf_ge _ _ x hx; omega
theorem tok_off (k : Nat) (l : List UInt8) : (tokOf k l).map Prod.fst = offOf k l := by
  unfold tokOf; rw [List.map_fst_zip]; rw [len_run_off l k]; exact Nat.le_refl _

set_option maxHeartbeats 400000 in
theorem trunc_early (s : ByteArray) (m : Int) (w : World) (hs : s.size ≤ 140737488351232) (E : Int) (hE : Hid (errOf (bl s) = E)) (R : ByteArray) (X : Int)
    (h : ((E != 0) = true ∧ R = ⟨#[]⟩ ∧ X = E) ∨ (E = 0 ∧ m < 0 ∧ R = ⟨#[]⟩ ∧ X = 2) ∨ (E = 0 ∧ 0 ≤ m ∧ (s.size : Int) ≤ m ∧ R = s ∧ X = 0)) :
    Calls Tryd.prog 30 #[.string s, .int .i64 m] w fun e w' => e = .returned (.tuple #[.string R, .int .i64 X]) ∧ Gr w w' := by
  have hc : ∀ w1 : World, Gr (w.alloc (.cells #[.int .i64 m] 3)) w1 → w1.cell? ⟨w.heap.size, 0, none⟩ = some (.int .i64 m) := by
    intro w1 hg
    have b := Boxed.new w 3 (.int .i64 m)
    exact (hg.cell (p := ⟨w.heap.size, 0, none⟩) (by simp)).trans b.cell
  have HC := Lib.hid hc
  clear hc
  rcases h with ⟨h0, rfl, rfl⟩ | ⟨rfl, h1, rfl, rfl⟩ | ⟨rfl, h1, h2, rfl, rfl⟩
  all_goals
    go_enter Tryd.func30, Tryd.ntmps30
    go_wp2_with fail
    refine (check_any _ _ hs).mono ?_
    rintro e w1 ⟨rfl, hg1⟩
    rw [hE.out]
    generalize atOf 0 _ = A
    have c1 := HC.out _ hg1
    go_wp2_with fail
    go_ret2
    exact ⟨rfl, ((Gr.refl w).alloc _).trans hg1⟩

set_option maxRecDepth 100000 in
set_option maxHeartbeats 2000000 in
theorem trunc_in (s : ByteArray) (m : Int) (w : World) (hs : s.size ≤ 140737488351232) (h0 : 0 ≤ m) (h2 : m < (s.size : Int)) (n : Nat) (hn : 3 ≤ n) (hE : Hid (errOf (bl s) = 0)) (ALL : List (Nat × Int)) (hA : Hid (tokOf 0 (bl s) = ALL)) :
    CallsIn Fence.wide n Tryd.prog 30 #[.string s, .int .i64 m] w fun e w' => e = .returned (.tuple #[.string (s.extract 0 (lastLe m (ALL.map Prod.fst))), .int .i64 0]) ∧ Gr w w' := by
  have h1 : 1 ≤ n := by omega
  have hc : ∀ w1 : World, Gr (w.alloc (.cells #[.int .i64 m] 3)) w1 → Boxed w1 w.heap.size 3 (.int .i64 m) := by
    intro w1 hg
    have b := Boxed.new w 3 (.int .i64 m)
    exact (Below.block hg w.heap.size (by simp)).trans b
  have HC := Lib.hid hc
  clear hc
  refine callsIn_of_wp_marks Tryd.func30 rfl trivial ?_ rfl
  simp only [Tryd.ntmps30, List.size_toArray, List.length_cons, List.length_nil, Nat.reduceAdd, Nat.reduceSub, Array.replicate_succ, Array.replicate_zero, List.push_toArray, List.append_toArray, List.nil_append, List.cons_append]
  gi_wp2_with fail
  refine ⟨trivial, ?_⟩
  refine (callsIn_wide.2 (check_any s _ hs)).mono ?_
  rintro e w1 ⟨rfl, hg1⟩
  rw [hE.out]
  generalize atOf 0 (bl s) = A
  have b1 := HC.out _ hg1
  have c1 := b1.cell
  have B1 := Lib.hid b1
  clear b1
  gi_wp2_with fail
  refine ⟨trivial, ?_⟩
  refine (callsIn_wide.2 (runes_any s _)).mono ?_
  rintro e w2 ⟨rfl, rfl⟩
  gi_wp2_with fail
  have bM : Boxed ((w1.alloc (.cells #[.int .i64 0] 3)).alloc (.cells #[.string s] 9)) w.heap.size 3 (.int .i64 m) := (B1.out.alloc _).alloc _
  have bN : Boxed ((w1.alloc (.cells #[.int .i64 0] 3)).alloc (.cells #[.string s] 9)) w1.heap.size 3 (.int .i64 (lastLe m [] : Nat)) := (Boxed.new w1 3 (.int .i64 0)).alloc _
  have bS := Boxed.new (w1.alloc (.cells #[.int .i64 0] 3)) 9 (.string s)
  rw [World.size_alloc] at bS
  have hsz := hg1.size
  simp only [World.size_alloc] at hsz
  have hB0 : Below w.heap.size w ((w1.alloc (.cells #[.int .i64 0] 3)).alloc (.cells #[.string s] 9)) := ((((Gr.refl w).alloc _).trans hg1).alloc _).alloc _
  have hseq := runes_stops (n - 1) (by omega) (w1.heap.size + 1) s hs _ bS
  rw [hA.out] at hseq
  have hlast : ∀ p : List (Nat × Int), p <+: ALL → lastLe m (p.map Prod.fst) ≤ s.size := by
    intro p hp
    rcases lastLe_mem m (p.map Prod.fst) with h | h
    · omega
    · have h3 : lastLe m (p.map Prod.fst) ∈ ALL.map Prod.fst := (hp.map Prod.fst).subset h
      rw [← hA.out, tok_off] at h3
      have := offOf_ge (bl s) 0 _ h3
      rw [bl_length] at this
      omega
  have HLast := Lib.hid hlast
  clear hlast
  refine wpIn_rangeFunc_ownG rfl h1 (gf := 43) (lb := #[.pointer (some ⟨w1.heap.size + 1, 0, none⟩)]) rfl trivial (enters_of Tryd.func43 (by kernel_rfl) rfl)
    hseq keepsBlock_t (keepsBlock_b (by simp)) (Below.refl _ _) (fun _ => rfl)
    (fun pre W => (Boxed W w.heap.size 3 (.int .i64 m) ∧ Boxed W w1.heap.size 3 (.int .i64 (lastLe m (pre.map Prod.fst) : Nat))) ∧ Below w.heap.size w W)
    (fun c pre W => ((c = Code.exit 0 ∧ ∃ (p : List (Nat × Int)) (x : Nat × Int), pre = p ++ [x] ∧ m < (x.1 : Int)) ∧ Boxed W w1.heap.size 3 (.int .i64 (lastLe m (pre.map Prod.fst) : Nat))) ∧ Below w.heap.size w W)
    (OwnFrom.and (OwnFrom.and (Own.from (boxed_own w.heap.size 3 (fun _ : List (Nat × Int) => .int .i64 m)) _) (Own.from (boxed_own w1.heap.size 3 (fun pre : List (Nat × Int) => .int .i64 (lastLe m (pre.map Prod.fst) : Nat))) _)) (ownFrom_below (Nat.le_refl _) (by simp; omega)))
    (fun c => OwnFrom.and (OwnFrom.and (ownFrom_pure _ (fun pre : List (Nat × Int) => c = Code.exit 0 ∧ ∃ (p : List (Nat × Int)) (x : Nat × Int), pre = p ++ [x] ∧ m < (x.1 : Int))) (Own.from (boxed_own w1.heap.size 3 (fun pre : List (Nat × Int) => .int .i64 (lastLe m (pre.map Prod.fst) : Nat))) _)) (ownFrom_below (Nat.le_refl _) (by simp; omega)))
    ⟨⟨bM, bN⟩, hB0⟩
    (fun x => { tmps := #[.string s, .int .i64 m, undef, .pointer (some ⟨w.heap.size, 0, none⟩), .string ⟨#[]⟩, .int .i64 0, .int .i64 A, .int .i64 0, .pointer (some ⟨w1.heap.size, 0, none⟩), .int .i64 (x.1 : Int), .tuple #[.int .i64 A, .int .i64 0], .string s, .tuple #[.int .i64 A, .int .i64 0], .int .i64 A, .int .i64 0, .int .i64 0, .bool false, undef, .int .i64 m, .bool (decide (m < 0)), .int .i64 m, .string s, .int .i64 s.size, .bool (decide ((s.size : Int) ≤ m)), undef, .string s, .func (.func 43) #[] #[.pointer (some ⟨w1.heap.size + 1, 0, none⟩)], .int .i64 (x.1 : Int), .int .i32 x.2, undef, undef, undef, undef, undef, undef, undef], defers := [] }) ?assign ?body ?done ?stop
  case assign =>
    intro l x W K hK
    gi_wp2
    exact hK
  case body =>
    rintro l pre x W ⟨⟨hbm, hbx⟩, hB⟩ hlt
    have hcm := hbm.cell
    have hc := hbx.cell
    have hf := hbx.frozen
    have HB := Lib.hid hbx
    have HM := Lib.hid hbm
    clear hbx hbm
    by_cases hx : m < (x.1 : Int)
    · have e1 : Hid (lastLe m ((pre ++ [x]).map Prod.fst) = lastLe m (pre.map Prod.fst)) := by
        show _ = _; rw [List.map_append]; exact (lastLe_snoc _ _ _).trans (if_neg (by omega))
      gi_wp2
      exact ⟨KeepsFrom.refl _ _, ⟨⟨rfl, pre, x, rfl, hx⟩, by rw [e1.out]; exact HB.out⟩, hB⟩
    · have e1 : Hid (lastLe m ((pre ++ [x]).map Prod.fst) = x.1) := by
        show _ = _; rw [List.map_append]; exact (lastLe_snoc _ _ _).trans (if_pos (by show (x.1 : Int) ≤ m; omega))
      gi_wp2
      exact ⟨(KeepsOthers.setCell _ _ _).from _, Below.heap_setCell W ⟨w1.heap.size, 0, none⟩ _ (w1.heap.size + 1) (by simp), ⟨HM.out.other (by omega) _, by rw [e1.out]; exact Boxed.set _ HB.out⟩, hB.setCell (p := ⟨w1.heap.size, 0, none⟩) (by simp; omega) _⟩
  case done =>
    rintro D ys W hD rfl ⟨⟨_, hbx⟩, hB⟩ hK
    have hc := hbx.cell
    have hl := HLast.out _ (List.prefix_refl _)
    gi_wp2
    refine ⟨by simp, .inl ⟨_, _, rfl, run_takeDeferred hK, ?_⟩⟩
    exact ⟨_, results_tmp2 rfl _ _ _, rfl, hB.trans (belowK_b (w := w) (Nat.le_refl _) W D _ _ (by simp at hD; omega) hK rfl rfl)⟩
  case stop =>
    rintro D c pre W hD hpre ⟨⟨⟨rfl, p, x, rfl, hx⟩, hbx⟩, hB⟩ hK
    have hc := hbx.cell
    have hl := HLast.out _ hpre
    have e1 : Hid (lastLe m (ALL.map Prod.fst) = lastLe m ((p ++ [x]).map Prod.fst)) := by
      obtain ⟨r, hr⟩ := hpre
      show _ = _
      have hso : (ALL.map Prod.fst).Pairwise (· < ·) := by rw [← hA.out, tok_off]; exact offOf_sorted _ _
      have hal : ALL.map Prod.fst = p.map Prod.fst ++ x.1 :: r.map Prod.fst := by rw [← hr]; simp
      rw [hal] at hso ⊢
      rw [lastLe_stop m _ _ _ hso hx, List.map_append]
      exact ((lastLe_snoc _ _ _).trans (if_neg (by omega))).symm
    generalize lastLe m ((p ++ [x]).map Prod.fst) = L at *
    gi_wp2
    refine ⟨by simp, .inl ⟨_, _, rfl, run_takeDeferred hK, ?_⟩⟩
    exact ⟨_, results_tmp2 rfl _ _ _, by rw [e1.out]; rfl, hB.trans (belowK_b (w := w) (Nat.le_refl _) W D _ _ (by simp at hD; omega) hK rfl rfl)⟩

/-- What Truncate returns, and its error. -/
def trB (s : ByteArray) (m : Int) : ByteArray := if errOf (bl s) = 0 ∧ 0 ≤ m then (if (s.size : Int) ≤ m then s else s.extract 0 (lastLe m (offOf 0 (bl s)))) else ⟨#[]⟩
def trE (s : ByteArray) (m : Int) : Int := if errOf (bl s) = 0 then (if 0 ≤ m then 0 else 2) else errOf (bl s)
/-- utf8.Truncate. -/
theorem trunc_any (s : ByteArray) (m : Int) (w : World) (hs : s.size ≤ 140737488351232) :
    Calls Tryd.prog 30 #[.string s, .int .i64 m] w fun e w' => e = .returned (.tuple #[.string (trB s m), .int .i64 (trE s m)]) ∧ Gr w w' := by
  by_cases h : errOf (bl s) = 0
  · by_cases h1 : 0 ≤ m
    · by_cases h2 : (s.size : Int) ≤ m
      · have e1 : trB s m = s := by unfold trB; rw [if_pos ⟨h, h1⟩, if_pos h2]
        have e2 : trE s m = 0 := by unfold trE; rw [if_pos h, if_pos h1]
        rw [e1, e2]
        exact trunc_early s m w hs _ h _ _ (.inr (.inr ⟨rfl, h1, h2, rfl, rfl⟩))
      · have e1 : trB s m = s.extract 0 (lastLe m ((tokOf 0 (bl s)).map Prod.fst)) := by unfold trB; rw [if_pos ⟨h, h1⟩, if_neg h2, tok_off]
        have e2 : trE s m = 0 := by unfold trE; rw [if_pos h, if_pos h1]
        rw [e1, e2]
        exact callsIn_wide.1 (trunc_in s m w hs h1 (by omega) 3 (by omega) h _ rfl)
    · have e1 : trB s m = ⟨#[]⟩ := by unfold trB; rw [if_neg (fun x => h1 x.2)]
      have e2 : trE s m = 2 := by unfold trE; rw [if_pos h, if_neg h1]
      rw [e1, e2]
      exact trunc_early s m w hs _ h _ _ (.inr (.inl ⟨rfl, by omega, rfl, rfl⟩))
  · have e1 : trB s m = ⟨#[]⟩ := by unfold trB; rw [if_neg (fun x => h x.1)]
    have e2 : trE s m = errOf (bl s) := by unfold trE; rw [if_neg h]
    rw [e1, e2]
    exact trunc_early s m w hs _ rfl _ _ (.inl ⟨by simpa using h, rfl, rfl⟩)
end Go.Proofs.YtalommgkigacpaaDoor

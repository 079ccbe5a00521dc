/- A region that draws its order: a head that is quiet in a class of worlds, then a tail in one forced order. One walk of the text's order serves every order. Built on the library's laws of both. -/
import Derived.Deep.Quiet
import Derived.StillTail
import Derived.Deep.QuietTactic
import Derived.BigQuiet
namespace Go.Proofs.YtcdcmohccbhchaaGreatDoor
section
variable {P : Program} {ops : Array Oper} {md : Region.Mode} {C : World → Prop}

/-- The head of a region, whatever order is picked: f operations of it are still to come, then L. -/
def Hd (P : Program) (md : Region.Mode) (ops : Array Oper) (C : World → Prop) (n : Nat) (L : Array Bool → Act → Prop) : Nat → Array Bool → Act → Prop
  | 0, l, a => L l a
  | f + 1, l, a => Region.ready md ops l ≠ [] ∧ ∀ i ∈ Region.ready md ops l, i < n ∧ qOp P ops C i (Hd P md ops C n L f (l.setIfInBounds i true)) a

theorem Hd.any {n g : Nat} {L : Array Bool → Act → Prop} {Q : Exit → Act → World → Prop} (hL : ∀ l a w, C w → L l a → wpAny P md ops Q g l a w) :
    ∀ (f : Nat) (l : Array Bool) (a : Act) (w : World), C w → Hd P md ops C n L f l a → wpAny P md ops Q (f + g) l a w := by
  intro f
  induction f with
  | zero => intro l a w hw h; rw [Nat.zero_add]; exact hL l a w hw h
  | succ f ih =>
    intro l a w hw h
    rw [Nat.add_right_comm]
    exact ⟨fun h0 => absurd h0 h.1, fun i hi => wpOp_of_qOp hw (fun a' w' hw' h' => ih _ a' w' hw' h') (h.2 i hi).2⟩

/-- An operation of the head that may come up now may be taken first. -/
theorem Hd.first {n i : Nat} {oi : Oper} {v : Value} {L : Array Bool → Act → Prop} (hi : ops[i]? = some oi) (hsel : ∀ (j : Nat) (o : Oper) cs b, ops[j]? = some o → o.op ≠ .select cs b)
    (hs : Region.sinkB md ops n = true) (hc : Region.chainB md ops n = true) (hn : n < ops.size) (hin : i < n) (hdone : ∀ l a, L l a → ∀ j ∈ Region.ready md ops l, n ≤ j) (f : Nat) :
    ∀ (l : Array Bool) (a : Act), HeadInv md ops n l →
      (∀ j oj, ops[j]? = some oj → j ≠ i → l.getD j true = false → (∀ e ∈ oj.after, Region.binds md e = true → e.on ≠ i) → oi.apart ops oj = true) →
      i ∈ Region.ready md ops l → YieldsIn P ops C oi v a → Hd P md ops C n L f (l.setIfInBounds i true) (a.put oi.dst v) → Hd P md ops C n L (f + 1) l a := by
  induction f with
  | zero =>
    intro l a inv _ hr hy H
    have hun := (mem_ready.1 hr).1
    refine ⟨List.ne_nil_of_mem hr, fun j hj => ?_⟩
    have hjn : j < n := Nat.lt_of_not_le fun h => tail_waits hs hc hn inv _ i rfl hin hun j h hj
    by_cases e : j = i
    · exact ⟨hjn, by rw [e]; exact hy.qOp hi H⟩
    · exact absurd (hdone _ _ H j (ready_mono hj e)) (by omega)
  | succ f ih =>
    intro l a inv hfree hr hy H
    have hun := (mem_ready.1 hr).1
    refine ⟨List.ne_nil_of_mem hr, fun j hj => ?_⟩
    have hjn : j < n := Nat.lt_of_not_le fun h => tail_waits hs hc hn inv _ i rfl hin hun j h hj
    by_cases e : j = i
    · exact ⟨hjn, by rw [e]; exact hy.qOp hi H⟩
    · obtain ⟨hju, oj, hoj, hall⟩ := mem_ready.1 hj
      have hap := hfree j oj hoj e hju fun x hx hb hon => by
        have := hall x hx hb
        rw [hon, getD_both hun] at this
        cases this
      refine ⟨hjn, qOp_mono (fun a' h3 => ih (l.setIfInBounds j true) a' (inv.set hj hjn) ?_ (ready_mono hr (Ne.symm e)) h3.1 ?_)
        (qOp_put hoj hap (fun cs b => hsel i oi cs b hi) (fun cs b => hsel j oj cs b hoj) hy (H.2 j (ready_mono hj e)).2)⟩
      · intro k ok hk hki hkun hno
        refine hfree k ok hk hki ?_ hno
        by_cases ejk : j = k
        · rw [← ejk]; exact hju
        · rwa [getD_set_ne true ejk] at hkun
      · rw [Array.setIfInBounds_comm _ _ e]; exact h3.2

theorem Hd.lex {n g : Nat} {R : Act → Prop} (hsel : Region.noSelect ops = true) (hs : Region.sinkB md ops n = true) (hc : Region.chainB md ops n = true) (hn : n < ops.size) (h : List Oper) :
    ∀ (k : Nat) (l : Array Bool) (a : Act), (∀ j, j < h.length → h[j]? = ops[k + j]?) → k + h.length = n → HeadInv md ops n l → Region.lexHead md ops g h.length k l = true → wpQuiet P ops C R h a →
      Hd P md ops C n (fun l' a' => Region.seqB md ops g n l' = true ∧ R a') h.length l a := by
  induction h with
  | nil =>
    intro k l a _ hk _ hB hq
    obtain rfl : k = n := by simpa using hk
    exact ⟨hB, hq⟩
  | cons o h ih =>
    intro k l a hl hk inv hB hq
    have h0 : ops[k]? = some o := by simpa using (hl 0 (by simp)).symm
    simp only [List.length_cons, Region.lexHead, Bool.and_eq_true] at hB hk
    have hr : k ∈ Region.ready md ops l := by simpa using hB.1.1
    have hkn : k < n := by omega
    obtain ⟨v, hy, hK⟩ := yieldsIn_of_qOp (K := wpQuiet P ops C R h) (C := C) (P := P) h0 (by unfold qOp; simp only [h0]; exact hq)
    refine Hd.first h0 (Region.noSelect_spec hsel) hs hc hn hkn (fun l' a' hL => seqB_ready hL.1) h.length l a inv (Region.free_spec h0 hB.1.2) hr hy (ih (k + 1) _ _ (fun j hj => ?_) (by omega) (inv.set hr hkn) hB.2 hK)
    have := hl (j + 1) (by simp; omega)
    simpa [Nat.add_assoc, Nat.add_comm 1 j] using this

/-- THE LAW: the first n operations are quiet in the class C, in the order of the text; the others come in one forced order, from whatever world of C. -/
theorem wp_region_tail {id : Nat} {Q : Exit → Act → World → Prop} {a : Act} {w : World} {l : List Oper} (n : Nat) (C : World → Prop) (hm : P.follows .mixedOrders = true) (hB : Region.lexTailB .any l.toArray n = true) (hC : C w.drew)
    (h : wpQuiet P l.toArray C (fun a' => ∀ w', C w' → wpList P l.toArray Q (l.drop n) a' w') (l.take n) a) : (Code.region id l.toArray true).wp P Q a w := by
  simp only [Region.lexTailB, Bool.and_eq_true, decide_eq_true_eq] at hB
  obtain ⟨⟨⟨⟨hsel, hn⟩, hs⟩, hc⟩, hlex⟩ := hB
  have htl : (l.take n).length = n := by have : n < l.length := by simpa using hn
                                         simp; omega
  have hdl : (l.drop n).length = l.toArray.size - n := by simp
  have inv0 : HeadInv .any l.toArray n (Array.replicate l.toArray.size false) :=
    ⟨by simp, fun j oj _ hl => (by rw [getD_replicate_false] at hl; cases hl), fun t _ ht => getD_in (by simpa using ht) (getD_replicate_false _ _)⟩
  have H := Hd.lex (md := .any) (g := l.toArray.size - n) (C := C) hsel hs hc hn (l.take n) 0 _ a (fun j hj => by
    have : j < n := by rwa [htl] at hj
    simp [this]) (by rw [htl, Nat.zero_add]) inv0 (by rw [htl]; exact hlex) h
  refine wp_region_any hm ?_
  have key := Hd.any (Q := Q) (g := l.toArray.size - n) (fun l' a' w' hw' hL => by
    have := wpAny_of_seq (md := .any) (Q' := Q) (l.drop n) n l' a' w' (fun j => by simp [List.getElem?_drop]) (by rw [hdl]; exact hL.1) (hL.2 w' hw')
    rwa [hdl] at this) _ _ _ w.drew hC H
  rw [htl, Nat.add_sub_of_le (Nat.le_of_lt hn)] at key
  exact key
end
end Go.Proofs.YtcdcmohccbhchaaGreatDoor

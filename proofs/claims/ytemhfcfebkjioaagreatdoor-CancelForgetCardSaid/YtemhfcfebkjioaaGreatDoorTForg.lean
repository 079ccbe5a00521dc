/- Tombs.Forget: what it returns and what it leaves. -/
import Derived.Test.YtemhfcfebkjioaaGreatDoorTBuild
import Derived.Test.YtemhfcfebkjioaaGreatDoorEq
namespace Go.Proofs.YtemhfcfebkjioaaGreatDoor
open Go.RowKit

theorem Tmb.tight {w : World} {bm n : Nat} {D : DataW Value} {l : List Canc} (h : Tmb w bm n D l) : Tmb w bm l.length D l := by
  obtain ⟨ho, h2, h3, h4, h5⟩ := h
  refine ⟨?_, h2, h3, h4, h5⟩
  obtain ⟨es, clock, hb, F, _, rfl⟩ := ho
  refine ⟨es, clock, hb, F, ?_, rfl⟩
  have h6 := h4
  simp [Maps.size, length_sorted] at h6
  omega
/-- The identities of those that are too old. -/
def oldIds (now : Int) (here : Id → Bool) (l : List Canc) : List Id := (l.filter (oldB now here)).map fun y => y.id
theorem oldIds_succ (now : Int) (here : Id → Bool) (l : List Canc) (k : Nat) (h : k < l.length) : oldIds now here (l.take (k + 1)) = oldIds now here (l.take k) ++ (if oldB now here l[k] = true then [l[k].id] else []) := by
  unfold oldIds
  rw [List.take_succ_eq_append_getElem h, List.filter_append, List.map_append]
  congr 1
  by_cases hb : oldB now here l[k] = true
  · simp [hb]
  · simp [hb]
theorem oldIds_len (now : Int) (here : Id → Bool) (l : List Canc) (k : Nat) : (oldIds now here (l.take k)).length ≤ k := by
  unfold oldIds
  rw [List.length_map]
  exact Nat.le_trans (List.length_filter_le _ _) (by rw [List.length_take]; omega)
theorem oldIds_inc (now : Int) (here : Id → Bool) {l : List Canc} (h : IncC l) : Inc (oldIds now here l) := by
  unfold Inc oldIds
  rw [List.pairwise_map]
  exact h.filter _
/-- What is left when these identities have been deleted. -/
def dropL (l : List Canc) (g : List Id) : List Canc := l.filter fun y => !g.any fun i => y.id == i
theorem dropL_nil (l : List Canc) : dropL l [] = l := by simp [dropL]
theorem dropL_succ (l : List Canc) (g : List Id) (k : Nat) (h : k < g.length) : dropL l (g.take (k + 1)) = (dropL l (g.take k)).filter fun y => !(y.id == g[k]) := by
  unfold dropL
  rw [List.filter_filter, List.take_succ_eq_append_getElem h]
  apply List.filter_congr
  intro y _
  rw [List.any_append]
  simp [Bool.and_comm]
theorem dropL_len (l : List Canc) (g : List Id) : (dropL l g).length ≤ l.length := List.length_filter_le _ _
theorem dropL_old (now : Int) (here : Id → Bool) {l s : List Canc} (hap : l.Pairwise fun y y' => y.id ≠ y'.id) (hp : s.Perm l) : dropL l (oldIds now here s) = leftL now here l := by
  unfold dropL leftL
  apply List.filter_congr
  intro y hy
  congr 1
  rw [Bool.eq_iff_iff, List.any_eq_true]
  unfold oldIds
  constructor
  · rintro ⟨i, hi, he⟩
    obtain ⟨z, hz, rfl⟩ := List.mem_map.1 hi
    obtain ⟨hz1, hz2⟩ := List.mem_filter.1 hz
    have : y = z := apart_eq hap hy (hp.mem_iff.1 hz1) (by simpa using he)
    rw [this]; exact hz2
  · intro h
    exact ⟨y.id, List.mem_map.2 ⟨y, List.mem_filter.2 ⟨hp.mem_iff.2 hy, h⟩, rfl⟩, by simp⟩
theorem rows_eq {w w' : World} {b : Nat} (h : w'.heap[b]? = w.heap[b]?) (k n : Nat) : hasRow w' ⟨b, k, none⟩ n = hasRow w ⟨b, k, none⟩ n ∧ rowAt w' ⟨b, k, none⟩ n = rowAt w ⟨b, k, none⟩ n := by
  have hc : ∀ i, w'.cell? ((⟨b, k, none⟩ : Addr).add i) = w.cell? ((⟨b, k, none⟩ : Addr).add i) := fun i => by
    rw [Addr.add_lit]; unfold World.cell?; rw [h]
  exact ⟨hasRow_congr fun i _ => hc i, rowAt_congr fun i _ => hc i⟩
theorem TmAt.ne' {w : World} {n bt bm : Nat} {l : List Canc} (h : TmAt w n bt bm l) : bt ≠ bm := fun e => by
  obtain ⟨_, _, h3, D, hD⟩ := h
  obtain ⟨es, clock, hb, _⟩ := hD.own
  rw [e, hb] at h3; cases h3
theorem eqIn_nn (d : Nat) (W : World) : Sem.run Tryz.prog (Op.equalIn (d + 1) 56 .nilFunc .nilFunc) W = .ok true W := by
  simp [Op.equalIn, run_underlying Tryz.underlying56]
theorem eqIn_fn (d : Nat) (f : Fn) (xs ys : Array Value) (W : World) : Sem.run Tryz.prog (Op.equalIn (d + 1) 56 (.func f xs ys) .nilFunc) W = .ok false W := by
  simp [Op.equalIn, run_underlying Tryz.underlying56]
theorem eql_nn (W : World) : Sem.run Tryz.prog (binOp .eql 56 .nilFunc .nilFunc) W = .ok (.bool true) W := by
  simp only [binOp]
  simp [Op.equal, Op.maxDepth, eqIn_nn 9999]
theorem eql_fn (f : Fn) (xs ys : Array Value) (W : World) : Sem.run Tryz.prog (binOp .eql 56 (.func f xs ys) .nilFunc) W = .ok (.bool false) W := by
  simp only [binOp]
  simp [Op.equal, Op.maxDepth, eqIn_fn 9999]
/-- The function that Forget is handed. -/
def HereAt (w : World) (hv : Value) (ids : List Id) : Prop := (hv = .nilFunc ∧ ids = []) ∨ ∃ a n c, hv = .func (.func 22) #[.agg #[.slice a n c]] #[] ∧ IdsAt w (.slice a n c) ids
def ForgPost (n bt bm : Nat) (acc : List Canc) (now : Int) (ids : List Id) (w : World) (e : Ending) (w' : World) : Prop :=
  ∃ a m c g, e = .returned (.slice a m c) ∧ IdsAt w' (.slice a m c) g ∧ Inc g ∧ (∀ i, i ∈ g ↔ i ∈ oldIds now (hasE ids) acc) ∧ g.length ≤ 1000 ∧ TmAt w' n bt bm (leftL now (hasE ids) acc) ∧ w.grownBy w' (some bm)
set_option maxRecDepth 100000 in
set_option maxHeartbeats 4000000 in
theorem forgetT (n bt bm : Nat) (acc : List Canc) (now : Int) (hv : Value) (ids : List Id) (w : World) (hT : TmAt w n bt bm acc) (hal : acc.length ≤ 900) (hdt : ∀ y ∈ acc, dateBad y = false) (hH : HereAt w hv ids) (hil : ids.length ≤ 1000) (hn1 : -1000000 ≤ now) (hn2 : now ≤ 200000000) :
    Calls Tryz.prog 26 #[.pointer (some ⟨bt, 0, none⟩), .int .i64 now, hv] w (ForgPost n bt bm acc now ids w) := by
  have HT := Lib.hid hT; have HH := Lib.hid hH
  have HAP : Hid (acc.Pairwise fun y y' => y.id ≠ y'.id) := by obtain ⟨_, _, _, D, hD⟩ := hT; exact hD.apart
  by_cases hnow : now ≤ 20160
  · have hd : decide (now ≤ 20160) = true := by simpa using hnow
    have HLN := Lib.hid (leftL_none now (hasE ids) acc hdt hnow)
    clear hT hH hdt
    go_enter Tryz.func26, Tryz.ntmps26
    go_wp2_with fail
    go_ret
    refine ⟨none, 0, 0, [], rfl, slAt_none _ _ _ _, inc_nil, fun i => ?_, by simp, by rw [HLN.out.2]; exact HT.out, ⟨rfl, rfl, rfl, Nat.le_refl _, fun _ _ _ => rfl⟩⟩
    constructor
    · intro h; cases h
    · intro h
      obtain ⟨y, hy, _⟩ := List.mem_map.1 h
      obtain ⟨h1, h2⟩ := List.mem_filter.1 hy
      rw [HLN.out.1 y h1] at h2; cases h2
  · have hd : decide (now ≤ 20160) = false := by simpa using hnow
    have HALL := Lib.hid (allT n bt bm acc w hT (by omega))
    obtain ⟨z0, hinfo, hzs⟩ := infoId
    obtain ⟨i0, hi, hz0, hz1, hz2⟩ := info_parts hinfo
    have HZ := Lib.hid hzs; have HI := Lib.hid hi
    clear hT hH hdt hzs hi hinfo hnow
    go_enter Tryz.func26, Tryz.ntmps26
    go_wp2_with fail
    refine HALL.out.mono ?_
    rintro e w1 ⟨s, sa, sc, hp, hs, rfl, hca, hg1⟩
    have hinc := Lib.hid (inc_of_perm hp HAP.out hs)
    have hsl : s.length = acc.length := hp.length_eq
    have HPM := Lib.hid hp
    obtain ⟨sa', sc', hov, hsc, hjs⟩ := hca
    injection hov with q1 q2 q3
    subst q1; subst q3
    rw [List.length_map] at hsc
    have HS := Lib.hid hjs; have G1 := Lib.hid hg1
    have hsl9 : s.length ≤ 900 := by omega
    have HSL := Lib.hid hsl
    clear q2 hp hs hjs hg1 hsl HALL
    go_wp2_with fail
    go_loopw [7, 9, 21, 22, 23, 24, 25, 26, 27, 28, 29, 30, 31, 32, 33, 34, 35, 36, 37, 38, 39, 40, 41, 42, 43, 44, 45, 46] (fun ov _ i _ _ _ _ _ _ _ _ _ _ _ _ _ _ _ _ _ _ _ _ _ _ _ _ _ wr => ∃ k : Nat, k ≤ s.length ∧ i = .int .i64 k ∧ Hid (wr.ownsRow w1.heap.size 23 32 ov (oldIds now (hasE ids) (s.take k)).length ((oldIds now (hasE ids) (s.take k)).map bC).flatten) ∧ Hid (Gr w1 wr)) (fun _ _ i _ _ _ _ _ _ _ _ _ _ _ _ _ _ _ _ _ _ _ _ _ _ _ _ _ _ => s.length - (intOf i).toNat)
    case atStart => exact ⟨0, Nat.zero_le _, rfl, ⟨rfl, .inl ⟨rfl, rfl⟩⟩, Gr.refl _⟩
    case round =>
      obtain ⟨k, hk, rfl, hown, hG⟩ := hrel
      have hgl := oldIds_len now (hasE ids) s k
      by_cases hlt : k < s.length
      · obtain ⟨b, o, rfl, hb, p1, p2⟩ := HS.out k (by simpa using hlt)
        have u1 := (hG.out.hasRow hb).trans p1
        have u2 := (hG.out.rowAt hb).trans p2
        rw [List.getElem_map] at u2
        have hk1 : (k : Int) < (s.length : Int) := by omega
        have hk2 : (0 : Int) ≤ (k : Int) := by omega
        have HSU := Lib.hid (oldIds_succ now (hasE ids) s k hlt)
        clear p1 p2
        generalize s[k] = y at *
        generalize oldIds now (hasE ids) (s.take k) = G at *
        have g2 := (Gr.refl wr).alloc (.cells (cancC y).toArray 27)
        have bx := heap_alloc_new wr (.cells (cancC y).toArray 27)
        have c1 := (cell_block bx 48).trans (canc_date y)
        have r1 := hasRow_block bx 49 32 (by rw [cancC_length]; decide)
        have r2 := (rowAt_block bx 49 32 (by rw [cancC_length]; decide)).trans (canc_target y)
        have HGW := Lib.hid ((hG.out).trans g2)
        have OW := Lib.hid (hown.out.alloc (.cells (cancC y).toArray 27))
        have BX := Lib.hid bx
        clear g2 bx
        by_cases hdate : y.date < now - 20160
        · have hdd : decide (y.date < now - 20160) = true := by simpa using hdate
          rcases HH.out with ⟨rfl, rfl⟩ | ⟨ha, hn, hc, rfl, hids⟩
          · have HO : Hid (oldB now (hasE []) y = true) := by show _ = _; unfold oldB; rw [hdd]; rfl
            have hnn := eql_nn
            clear hdate
            have r3 := hasRow_block BX.out 0 32 (by rw [cancC_length]; decide)
            have r4 := (rowAt_block BX.out 0 32 (by rw [cancC_length]; decide)).trans (canc_id y)
            have O4 := Lib.hid (OW.out.alloc (.cells (bC y.id).toArray 23))
            have hnews : Hid (∀ j u, (bC y.id)[j]? = some u → ((wr.alloc (.cells (cancC y).toArray 27)).alloc (.cells (bC y.id).toArray 23)).cell? ((⟨(wr.alloc (.cells (cancC y).toArray 27)).heap.size, 0, none⟩ : Addr).add j) = some u) := by
              intro j u hu
              rw [Addr.add_lit, Nat.zero_add, World.cell?_alloc_at _ _ _ _ rfl]; simpa using hu
            have hnl : Hid ((bC y.id).length = 1 * 32) := by show _ = _; rw [bC_length]
            have h1c : Hid (∀ u ∈ bC y.id, u.oneCell' = true) := fun u hu => List.all_eq_true.1 (oneB_bC y.id) u hu
            have hbs : Hid (w1.heap.size ≤ ((wr.alloc (.cells (cancC y).toArray 27)).alloc (.cells (bC y.id).toArray 23)).heap.size) := Nat.le_trans HGW.out.size (by simp)
            have hnews' := hnews
            rw [World.size_alloc] at hnews'
            go_wp2_with (at_builtin; refine wpList_append_own _ rfl _ _ 29 rfl w1.heap.size 23 i0 z0 32 32 Tryz.underlying29 HI.out hz0 hz1 hz2 HZ.out (by decide) u7 G.length (G.map bC).flatten rfl O4.out ⟨wr.heap.size + 1, 0, none⟩ 1 1 (bC y.id) rfl hnl.out hnews'.out h1c.out (by unfold maxLen; omega) (by omega) hbs.out ?_; intro v' w6 hown6 hgrow6 hnil6)
            have HLT : ∀ k, u7.ownBlock = some k → w1.heap.size ≤ k := fun k hk => (O4.out.lt k hk).1
            go_roundw
            case rel =>
              refine ⟨k + 1, by omega, by go_num, ?_, (HGW.out.alloc _).grown hgrow6 (fun k hk => HLT k hk)⟩
              show World.ownsRow _ _ _ _ _ _ _
              rw [HSU.out, HO.out]
              simpa using hown6
            case measure => simp [intOf]; omega

          · have HHAS := Lib.hid (hasC ids ha hn hc y.target _ (hids.gr (G1.out.trans HGW.out)) (by omega))
            have hfn := eql_fn (.func 22) #[.agg #[.slice ha hn hc]] #[]
            have HODB : Hid (oldB now (hasE ids) y = !hasE ids y.target) := by show _ = _; unfold oldB; rw [hdd]; rfl
            clear hdate
            go_wp2_with fail
            refine HHAS.out.mono ?_
            rintro e w5 ⟨rfl, hg5⟩
            have BX5 := Lib.hid ((hg5.block (b := wr.heap.size) (by simp)).trans BX.out)
            have O5 := Lib.hid (OW.out.kept hg5.grownBy (by
              cases hb : u7.ownBlock with
              | none => exact .inl rfl
              | some k => exact .inr (by simp)))
            have G5 := Lib.hid (HGW.out.trans hg5)
            clear hg5 HHAS c1 r1 r2
            cases hhe : hasE ids y.target with
            | true =>
              have HO : Hid (oldB now (hasE ids) y = false) := by show _ = _; rw [HODB.out, hhe]; rfl
              go_wp2_with fail
              go_roundw
              case rel => exact ⟨k + 1, by omega, by go_num, by show World.ownsRow _ _ _ _ _ _ _; rw [HSU.out, HO.out]; simpa using O5.out, G5.out⟩
              case measure => simp [intOf]; omega
            | false =>
              have HO : Hid (oldB now (hasE ids) y = true) := by show _ = _; rw [HODB.out, hhe]; rfl
              have r3 := hasRow_block BX5.out 0 32 (by rw [cancC_length]; decide)
              have r4 := (rowAt_block BX5.out 0 32 (by rw [cancC_length]; decide)).trans (canc_id y)
              have O4 := Lib.hid (O5.out.alloc (.cells (bC y.id).toArray 23))
              have hnews : Hid (∀ j u, (bC y.id)[j]? = some u → (w5.alloc (.cells (bC y.id).toArray 23)).cell? ((⟨w5.heap.size, 0, none⟩ : Addr).add j) = some u) := by
                intro j u hu
                rw [Addr.add_lit, Nat.zero_add, World.cell?_alloc_at _ _ _ _ rfl]; simpa using hu
              have hnl : Hid ((bC y.id).length = 1 * 32) := by show _ = _; rw [bC_length]
              have h1c : Hid (∀ u ∈ bC y.id, u.oneCell' = true) := fun u hu => List.all_eq_true.1 (oneB_bC y.id) u hu
              have hbs : Hid (w1.heap.size ≤ (w5.alloc (.cells (bC y.id).toArray 23)).heap.size) := Nat.le_trans G5.out.size (by simp)
              have hnews' := hnews
              go_wp2_with (at_builtin; refine wpList_append_own _ rfl _ _ 29 rfl w1.heap.size 23 i0 z0 32 32 Tryz.underlying29 HI.out hz0 hz1 hz2 HZ.out (by decide) u7 G.length (G.map bC).flatten rfl O4.out ⟨w5.heap.size, 0, none⟩ 1 1 (bC y.id) rfl hnl.out hnews'.out h1c.out (by unfold maxLen; omega) (by omega) hbs.out ?_; intro v' w6 hown6 hgrow6 hnil6)
              have HLT : ∀ k, u7.ownBlock = some k → w1.heap.size ≤ k := fun k hk => (O4.out.lt k hk).1
              go_roundw
              case rel =>
                refine ⟨k + 1, by omega, by go_num, ?_, (G5.out.alloc _).grown hgrow6 (fun k hk => HLT k hk)⟩
                show World.ownsRow _ _ _ _ _ _ _
                rw [HSU.out, HO.out]
                simpa using hown6
              case measure => simp [intOf]; omega

        · have hdd : decide (y.date < now - 20160) = false := by simpa using hdate
          have HO : Hid (oldB now (hasE ids) y = false) := by show _ = _; unfold oldB; rw [hdd]; rfl
          clear hdate
          go_wp2_with fail
          go_roundw
          case rel => exact ⟨k + 1, by omega, by go_num, by show World.ownsRow _ _ _ _ _ _ _; rw [HSU.out, HO.out]; simpa using OW.out, HGW.out⟩
          case measure => simp [intOf]; omega
      · have hke : s.take k = s := List.take_of_length_le (by omega)
        rw [hke] at hown
        have hk1 : ¬ (k : Int) < (s.length : Int) := by omega
        have HDR := Lib.hid (dropL_old now (hasE ids) HAP.out HPM.out)
        have HGI := Lib.hid (oldIds_inc now (hasE ids) hinc.out)
        have HGM : Hid (∀ i, i ∈ oldIds now (hasE ids) s ↔ i ∈ oldIds now (hasE ids) acc) := fun i => by
          unfold oldIds
          exact ((HPM.out.filter _).map _).mem_iff
        have hgl2 : (oldIds now (hasE ids) s).length ≤ 900 := by rw [hke] at hgl; omega
        clear hgl hke
        generalize oldIds now (hasE ids) s = G at *
        obtain ⟨oa, oc, hov, hnil⟩ := owns_slice hown.out
        subst hov
        have hCA : IdsAt wr (.slice oa G.length oc) G := slAt_of_owns (fun r hr => by obtain ⟨x, _, rfl⟩ := List.mem_map.1 hr; exact bC_length x) (by rw [List.length_map]; exact hown.out)
        obtain ⟨oa', oc', hov, hgc, hjg⟩ := id hCA
        injection hov with e1 e2 e3
        subst e1; subst e3
        rw [List.length_map] at hgc
        have HJG := Lib.hid hjg
        have TR := Lib.hid (HT.out.gr (G1.out.trans hG.out))
        have HBM : Hid (∀ b k, hasRow wr ⟨b, k, none⟩ 32 = true → b ≠ bm) := fun b k h e => by
          obtain ⟨_, _, _, D, hD⟩ := TR.out
          obtain ⟨es, clock, hb, _⟩ := hD.own
          have := hasRow_iff.1 h 0 (by decide)
          rw [Addr.add_lit, e] at this
          simp [World.cell?, hb] at this
        clear hjg hCA e2 hnil hown
        generalize wr = V at *
        go_wp2_with fail
        go_loopw [11, 49, 50, 51, 52, 53, 54, 55, 56, 57, 58] (fun _ i _ _ _ _ _ _ _ _ _ wq => ∃ m : Nat, m ≤ G.length ∧ i = .int .i64 m ∧ Hid (TmAt wq n bt bm (dropL acc (G.take m))) ∧ Hid (V.grownBy wq (some bm))) (fun _ i _ _ _ _ _ _ _ _ _ _ => G.length - (intOf i).toNat)
        case atStart => exact ⟨0, Nat.zero_le _, rfl, by show TmAt _ _ _ _ _; rw [List.take_zero, dropL_nil]; exact TR.out, ⟨rfl, rfl, rfl, Nat.le_refl _, fun _ _ _ => rfl⟩⟩
        case round =>
          obtain ⟨m, hm, rfl, hTq, hgq⟩ := hrel
          by_cases hltm : m < G.length
          · obtain ⟨b, o, rfl, hb, p1, p2⟩ := HJG.out m (by simpa using hltm)
            rw [List.getElem_map] at p2
            have hre := rows_eq (hgq.out.block b hb (fun e => HBM.out b _ p1 (Option.some.inj e))) (o + m * 32) 32
            have u1 := hre.1.trans p1
            have u2 := hre.2.trans p2
            have hm1 : (m : Int) < (G.length : Int) := by omega
            have hm2 : (0 : Int) ≤ (m : Int) := by omega
            have HSU := Lib.hid (dropL_succ acc G m hltm)
            have hdl := dropL_len acc (G.take m)
            clear p1 p2 hre
            generalize G[m] = x at *
            generalize dropL acc (G.take m) = cur at *
            have T2 := Lib.hid (hTq.out.gr ((Gr.refl wr).alloc (.cells (bC x).toArray 23)))
            have B2 := Lib.hid (heap_alloc_new wr (.cells (bC x).toArray 23))
            have GQ := Lib.hid ((Gr.refl wr).alloc (.cells (bC x).toArray 23))
            have HSZ : Hid (wr.heap.size < (wr.alloc (.cells (bC x).toArray 23)).heap.size) := by show _ < _; simp
            go_wp2_with fail
            clear u1 u2
            generalize wr.alloc (.cells (bC x).toArray 23) = W at *
            have m1 := T2.out.cell
            have s1 := World.block_lt_of_cell? _ _ m1
            have s2 := HSZ.out
            have r1 := hasRow_block B2.out 0 32 (by rw [bC_length]; decide)
            have r2 := rowAt_block B2.out 0 32 (by rw [bC_length]; decide)
            rw [show rowOf (bC x) 0 32 = bC x from by unfold rowOf; rw [List.drop_zero, List.take_of_length_le (by rw [bC_length]; decide)]] at r2
            refine wp_region_tail 5 (fun u => ∃ p : LD, u = lw W p) (by kernel_rfl) (by kernel_rfl) (cl_drew W) ?_
            simp only [List.take_succ_cons, List.take_zero, List.drop_succ_cons, List.drop_zero]
            repeat (go_big_quiet_step (fail))
            refine wpQuiet_nil ?_
            rintro _ ⟨p, rfl⟩
            have GU := Lib.hid (GQ.out.trans (lay_lw W p).1)
            have TU := Lib.hid (T2.out.gr (lay_lw W p).1)
            clear m1 s1 s2 r1 r2
            generalize lw W p = U at *
            obtain ⟨t1, t2, t3, D, hD⟩ := TU.out
            obtain ⟨w5, hdel, ⟨D', hD'⟩, ht5⟩ := hD.drop x 0
            have HD5 := Lib.hid hD'.tight; have HT5 := Lib.hid ht5
            clear hD hD' ht5
            go_wp2_with fail
            have hgr := HT5.out.grown
            go_roundw
            case rel =>
              refine ⟨m + 1, by omega, by go_num, ?_, (hgq.out.andThen (GU.out.grownBy.but (some bm)) (fun j hj => .inr hj)).andThen hgr (fun j hj => .inr hj)⟩
              show TmAt _ _ _ _ _
              rw [HSU.out]
              exact ⟨t1, t2, (hgr.block bt (Array.getElem?_eq_some_iff.1 t3).1 (fun e => TU.out.ne' (Option.some.inj e))).trans t3, D', HD5.out⟩
            case measure => simp [intOf]; omega
          · have hme : G.take m = G := List.take_of_length_le (by omega)
            rw [hme, HDR.out] at hTq
            have hm1 : ¬ (m : Int) < (G.length : Int) := by omega
            have HIDS : Hid (IdsAt wr (.slice oa G.length oc) G) := by
              refine ⟨oa, oc, by rw [List.length_map], by rw [List.length_map]; exact hgc, fun j hj => ?_⟩
              obtain ⟨b, o, hab, hb, p1, p2⟩ := HJG.out j hj
              have hre := rows_eq (hgq.out.block b hb (fun e => HBM.out b _ p1 (Option.some.inj e))) (o + j * 32) 32
              exact ⟨b, o, hab, Nat.lt_of_lt_of_le hb hgq.out.size, hre.1.trans p1, hre.2.trans p2⟩
            clear hme
            go_wp2_with fail
            go_ret
            exact ⟨oa, G.length, oc, G, rfl, HIDS.out, HGI.out, HGM.out, by omega, hTq.out, ((G1.out.trans hG.out).grownBy.but (some bm)).andThen hgq.out (fun j hj => .inr hj)⟩
end Go.Proofs.YtemhfcfebkjioaaGreatDoor

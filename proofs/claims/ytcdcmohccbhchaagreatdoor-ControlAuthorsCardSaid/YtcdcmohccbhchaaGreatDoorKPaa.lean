/- control.ParseAuthor and the reference's. -/
import Derived.Test.YtcdcmohccbhchaaGreatDoorKAtt
import Derived.Test.YtcdcmohccbhchaaGreatDoorKPrs
namespace Go.Proofs.YtcdcmohccbhchaaGreatDoor
open Go.RowKit

theorem hexN_nat (c : UInt8) : (hexN c).toNat = (hexV c).toNat ∧ (hexV c).toNat < 256 := by
  have := (show ∀ c : UInt8, (hexN c).toNat = (hexV c).toNat ∧ (hexV c).toNat < 256 from all_u8 (by decide +kernel)) c
  exact this
theorem badAt_stop (s : Str) (k : Nat) (hk : k < s.length) (h : (s.take k).all hexB = true) (hb : hexB (s.getD k 0) = false) : badAt s = k := by
  have e : s = s.take k ++ s.getD k 0 :: s.drop (k + 1) := by
    rw [List.getD_eq_getElem?_getD, List.getElem?_eq_getElem hk, Option.getD_some, ← List.drop_eq_getElem_cons hk, List.take_append_drop]
  unfold badAt
  rw [e, List.takeWhile_append_of_pos (fun a ha => List.all_eq_true.1 h a ha), List.takeWhile_cons, hb]
  simp; omega
theorem takeWhile_ge {p : UInt8 → Bool} : ∀ (k : Nat) (s : Str), k ≤ s.length → (s.take k).all p = true → k ≤ (s.takeWhile p).length
  | 0, _, _, _ => Nat.zero_le _
  | k + 1, [], h, _ => by simp at h
  | k + 1, c :: s, h, ha => by
    rw [List.take_succ_cons, List.all_cons, Bool.and_eq_true] at ha
    rw [List.takeWhile_cons, ha.1, if_pos rfl, List.length_cons]
    have := takeWhile_ge k s (by simpa using h) ha.2
    omega
/-- What ParseAuthor returns. -/
def paV (s : Str) : Value := .tuple #[.agg (bC (autOf s)).toArray, .int .i64 (autErr s).1, .int .i64 (autErr s).2]
theorem paV_err {s : Str} {a e : Int} (h : autErr s = (a, e)) (he : e ≠ 0) : paV s = .tuple #[.agg (bC zAut).toArray, .int .i64 a, .int .i64 e] := by
  have : autOf s = zAut := by unfold autOf; rw [h, if_neg he]
  unfold paV; rw [this, h]
theorem pa_bad {s : Str} {k : Nat} (hk : k < min s.length 32) (h : (s.take k).all hexB = true) (hb : hexB (s.getD k 0) = false) : paV s = .tuple #[.agg (bC zAut).toArray, .int .i64 k, .int .i64 6] := by
  have := badAt_stop s k (by omega) h hb
  exact paV_err (by unfold autErr; rw [if_pos (by omega), this]) (by decide)
theorem pa_short {s : Str} (hk : s.length < 32) (h : s.all hexB = true) : paV s = .tuple #[.agg (bC zAut).toArray, .int .i64 s.length, .int .i64 4] := by
  have : badAt s = s.length := by unfold badAt; rw [takeWhile_all h]
  exact paV_err (by unfold autErr; rw [if_neg (by omega), if_pos hk]) (by decide)
theorem pa_long {s : Str} {k : Nat} (hk32 : k = 32) (hk : 32 < s.length) (h : (s.take k).all hexB = true) : paV s = .tuple #[.agg (bC zAut).toArray, .int .i64 32, .int .i64 5] := by
  subst hk32
  have : 32 ≤ badAt s := takeWhile_ge 32 s (by omega) h
  exact paV_err (by unfold autErr; rw [if_neg (by omega), if_neg (by omega), if_pos hk]) (by decide)
theorem pa_ok {s : Str} {k : Nat} (hk32 : k = 32) (hk : s.length = 32) (h : s.all hexB = true) : paV s = .tuple #[.agg ((digTo 16 s k).map cU).toArray, .int .i64 0, .int .i64 0] := by
  subst hk32
  have h0 : (autErr s).2 = 0 := autErr_zero.2 ⟨hk, h⟩
  have h1 : autErr s = (0, 0) := by
    have : badAt s = 32 := by unfold badAt; rw [takeWhile_all h, hk]
    unfold autErr; rw [if_neg (by omega), if_neg (by omega), if_neg (by omega)]
  have h2 : bC (autOf s) = (digTo 16 s 32).map cU := by
    unfold autOf; rw [if_pos h0, digTo_all 16 s hk]
    unfold bC; rw [vecOf_toList (unhex_len 16 s hk)]; rfl
  unfold paV; rw [h1, h2]
theorem hexB_iff (c : UInt8) : hexB c = false ↔ hexV c < 0 := by unfold hexB; simp
theorem all_take_succ {p : UInt8 → Bool} (s : Str) (k : Nat) (hk : k < s.length) (h : (s.take k).all p = true) (hp : p (s.getD k 0) = true) : (s.take (k + 1)).all p = true := by
  rw [List.take_succ_eq_append_getElem hk, List.all_append, h]
  rw [List.getD_eq_getElem?_getD, List.getElem?_eq_getElem hk, Option.getD_some] at hp
  simp [hp]
theorem or_fin : ∀ (i : Fin 256) (j : Fin 16), bits .or .u8 (IntKind.u8.wrap ((i.val : Int) * 16)) (j.val : Int) = (((UInt8.ofNat i.val <<< 4) ||| UInt8.ofNat j.val).toNat : Int) := by decide +kernel
theorem or_u8 (x v : UInt8) (h : v.toNat < 16) : bits .or .u8 ((x.toNat : Int) * 16 % 256) (v.toNat : Int) = ((x <<< 4 ||| v).toNat : Int) := by
  have := or_fin ⟨x.toNat, x.toNat_lt⟩ ⟨v.toNat, h⟩
  rw [IntKind.wrap_u8] at this
  simpa using this
theorem map_putD (l : List UInt8) (i : Nat) (v : UInt8) : (putD l i v).map cU = (l.map cU).set (i / 2) (cU (l.getD (i / 2) 0 <<< 4 ||| v)) := by
  unfold putD; rw [List.map_set]
theorem Gr.setOwn {w wr : World} (hg : Gr w wr) {b o : Nat} (hb : w.heap.size ≤ b) (u : Value) : Gr w (wr.setCell ⟨b, o, none⟩ u) := Gr.of_grownBy (grown_new (grown_gr (row := none) hg) hb u)
theorem Gr.setsOwn {w wr : World} (hg : Gr w wr) {b : Nat} (hb : w.heap.size ≤ b) (l : List Value) (k : Nat) : Gr w (wr.setCells b k l) := Gr.of_grownBy (grown_sets hb l k wr (grown_gr (row := none) hg))
set_option maxRecDepth 100000 in
set_option maxHeartbeats 2000000 in
theorem parseAuthorC (s : ByteArray) (w : World) (hs : s.size ≤ 1000000) : Calls Tryz.prog 25 #[.string s] w fun e w' => e = .returned (paV (bl s)) ∧ Gr w w' := by
  have HG := Lib.hid ((Gr.refl w).alloc (.cells (bC zAut).toArray 52))
  have HB := Lib.hid (heap_alloc_new w (.cells (bC zAut).toArray 52))
  go_enter Tryz.func25, Tryz.ntmps25
  go_wp2_with fail
  go_loopw [5, 6, 10, 11, 12, 13, 14, 15, 16, 17, 18, 21, 22, 23, 24, 25, 26, 27, 28, 29, 30, 31, 32] (fun _ _ i _ _ _ _ _ _ _ _ _ _ _ _ _ _ _ _ _ _ _ _ wr => ∃ k : Nat, k ≤ min s.size 32 ∧ i = .int .i64 k ∧ Hid (((bl s).take k).all hexB = true) ∧ Hid (Gr w wr) ∧ Hid (wr.heap[w.heap.size]? = some (.cells ((digTo 16 (bl s) k).map cU).toArray 52 (0, 0)))) (fun _ _ i _ _ _ _ _ _ _ _ _ _ _ _ _ _ _ _ _ _ _ _ _ => 32 - (intOf i).toNat)
  case atStart => exact ⟨0, Nat.zero_le _, rfl, rfl, HG.out, HB.out⟩
  case round =>
    obtain ⟨k, hk, rfl, hA, hG, hB⟩ := hrel
    by_cases hlt : k < min s.size 32
    · have hks : k < s.size := by omega
      have hk1 : (k : Int) < min (s.size : Int) 32 := by omega
      have hk2 : (0 : Int) ≤ (k : Int) := by omega
      have hk3 : (k : Int) < (s.size : Int) := by omega
      have HI : Hid (∀ W, Calls Tryz.prog 57 #[.string ⟨#[48, 49, 50, 51, 52, 53, 54, 55, 56, 57, 97, 98, 99, 100, 101, 102]⟩, .int .u8 (s[k].toNat : Int)] W fun e w' => e = .returned (.int .i64 (hexV s[k])) ∧ w' = W) := fun W => by
        have h := Tryz.strings_IndexByte ⟨#[48, 49, 50, 51, 52, 53, 54, 55, 56, 57, 97, 98, 99, 100, 101, 102]⟩ (s[k].toNat : Int) W
        have e : ((s[k].toNat : Int)).toNat.toUInt8 = s[k] := by simp
        rw [e] at h; exact h
      have hgd : (bl s).getD k 0 = s[k] := by
        rw [List.getD_eq_getElem?_getD, List.getElem?_eq_getElem (by rw [bl_length]; exact hks)]; rfl
      have hl : ((digTo 16 (bl s) k).map cU).length = 16 := by rw [List.length_map, digTo_len]
      have hz := (Array.getElem?_eq_some_iff.1 hB.out).1
      by_cases hv : hexV s[k] < 0
      · have hr := hasRow_block hB.out 0 16 (by rw [hl]; decide)
        have hf := freeRow_block hB.out 0 16
        have HP := Lib.hid (pa_bad (s := bl s) (k := k) (by rw [bl_length]; exact hlt) hA.out (by rw [hgd, hexB_iff]; exact hv))
        have hb := Lib.hid (sets_whole (cs := bC zAut) hB.out (by rw [hl, bC_length]))
        have hg := Lib.hid (hG.out.setsOwn (b := w.heap.size) (Nat.le_refl _) (bC zAut) 0)
        clear hgd hl hA hB
        go_wp2_with (go_at_call 57; refine (HI.out _).mono ?_; rintro e w' ⟨rfl, rfl⟩)
        refine bodyPost_ret (results_cell_tmp2 (p := 2) (u1 := 3) (u2 := 4) rfl _ _ w.heap.size _ _ _ _ rfl hb.out Tryz.underlying52 rfl (by rw [List.size_toArray, bC_length]; kernel_rfl)) rfl ?_
        exact ⟨by rw [HP.out]; rfl, hg.out⟩
      · have hb1 : hexB s[k] = true := by
          cases hb : hexB s[k] with
          | true => rfl
          | false => exact absurd ((hexB_iff _).1 hb) hv
        have HA1 := Lib.hid (all_take_succ (bl s) k (by rw [bl_length]; exact hks) hA.out (by rw [hgd]; exact hb1))
        obtain ⟨_, hv16, hvn⟩ := hex_back s[k] hb1
        have hD : Hid ((digTo 16 (bl s) (k + 1)).map cU = ((digTo 16 (bl s) k).map cU).set (k / 2) (cU ((digTo 16 (bl s) k).getD (k / 2) 0 <<< 4 ||| hexN s[k]))) := by
          show _ = _
          rw [digTo, map_putD, hgd]
        have hj : k / 2 < (digTo 16 (bl s) k).length := by rw [digTo_len]; omega
        have c0 : wr.cell? ⟨w.heap.size, k / 2, none⟩ = some (.int .u8 (((digTo 16 (bl s) k).getD (k / 2) 0).toNat : Int)) := by
          rw [cell_block hB.out, List.getElem?_map, List.getElem?_eq_getElem hj, List.getD_eq_getElem?_getD, List.getElem?_eq_getElem hj]; rfl
        have f0 := free_block hB.out (k / 2)
        have hor := or_u8 ((digTo 16 (bl s) k).getD (k / 2) 0) (hexN s[k]) (by rw [hvn]; exact hv16)
        generalize (digTo 16 (bl s) k).getD (k / 2) 0 = x at *
        obtain ⟨n, hn, hnn⟩ : ∃ n : Nat, hexV s[k] = (n : Int) ∧ (hexN s[k]).toNat = n := ⟨(hexV s[k]).toNat, by omega, hvn⟩
        rw [hnn] at hor
        rw [hn] at HI
        have hw : IntKind.u8.wrap (n : Int) = (n : Int) := by rw [IntKind.wrap_u8]; omega
        have hn0 : ¬ (n : Int) < 0 := by omega
        have hdiv : ((k : Int) / 2).toNat = k / 2 := by omega
        generalize x <<< 4 ||| hexN s[k] = y at *
        have HB1 := Lib.hid (heap_setCell_same wr w.heap.size (k / 2) _ _ (cU y) hB.out)
        have HG1 := Lib.hid (hG.out.setOwn (b := w.heap.size) (o := k / 2) (Nat.le_refl _) (cU y))
        clear hgd hl hv hv16 hvn hn hnn hb1 hA hB hG
        go_wp2_with (go_at_call 57; refine (HI.out _).mono ?_; rintro e w' ⟨rfl, rfl⟩)
        go_roundw
        case rel => exact ⟨k + 1, by omega, by go_num, HA1.out, HG1.out, by show _ = _; rw [hD.out]; simpa [cU] using HB1.out⟩
        case measure => simp [intOf]; omega
    · have hk1 : ¬ (k : Int) < min (s.size : Int) 32 := by omega
      have hl : ((digTo 16 (bl s) k).map cU).length = 16 := by rw [List.length_map, digTo_len]
      have hr := hasRow_block hB.out 0 16 (by rw [hl]; decide)
      have hf := freeRow_block hB.out 0 16
      have hb := Lib.hid (sets_whole (cs := bC zAut) hB.out (by rw [hl, bC_length]))
      have hg := Lib.hid (hG.out.setsOwn (b := w.heap.size) (Nat.le_refl _) (bC zAut) 0)
      have hsz := bl_length s
      by_cases h1 : s.size < 32
      · have hkk : k = s.size := by omega
        subst hkk
        have HP := Lib.hid (pa_short (s := bl s) (by omega) (by have := hA.out; rwa [List.take_of_length_le (by omega)] at this))
        rw [hsz] at HP
        have h2 : (s.size : Int) < 32 := by omega
        clear hl hA hB hsz
        go_wp2_with fail
        refine bodyPost_ret (results_cell_tmp2 (p := 2) (u1 := 3) (u2 := 4) rfl _ _ w.heap.size _ _ _ _ rfl hb.out Tryz.underlying52 rfl (by rw [List.size_toArray, bC_length]; kernel_rfl)) rfl ?_
        exact ⟨by rw [HP.out]; rfl, hg.out⟩
      · have hkk : k = 32 := by omega
        have h2 : ¬ (s.size : Int) < 32 := by omega
        by_cases h3 : 32 < s.size
        · have HP := Lib.hid (pa_long (s := bl s) hkk (by omega) hA.out)
          have h4 : 32 < (s.size : Int) := by omega
          clear hl hA hB hsz hkk hk hlt HG HB hG
          go_wp2_with fail
          refine bodyPost_ret (results_cell_tmp2 (p := 2) (u1 := 3) (u2 := 4) rfl _ _ w.heap.size _ _ _ _ rfl hb.out Tryz.underlying52 rfl (by rw [List.size_toArray, bC_length]; kernel_rfl)) rfl ?_
          exact ⟨by rw [HP.out]; rfl, hg.out⟩
        · have HP := Lib.hid (pa_ok (s := bl s) hkk (by omega) (by have := hA.out; rwa [List.take_of_length_le (by omega)] at this))
          have h4 : ¬ 32 < (s.size : Int) := by omega
          have hq := (rowAt_block hB.out 0 16 (by rw [hl]; decide)).trans (rowOf_all _ _ hl)
          have h1' : oneB ((digTo 16 (bl s) k).map cU) = true := List.all_eq_true.2 fun v hv => by obtain ⟨b, _, rfl⟩ := List.mem_map.1 hv; rfl
          have hb' := Lib.hid (sets_whole (cs := (digTo 16 (bl s) k).map cU) hB.out rfl)
          have hg' := Lib.hid (hG.out.setsOwn (b := w.heap.size) (Nat.le_refl _) ((digTo 16 (bl s) k).map cU) 0)
          clear hA hB hsz hkk hk hlt HG HB hG
          generalize (digTo 16 (bl s) k).map cU = cs at *
          go_wp2_with fail
          refine bodyPost_ret (results_cell_tmp2 (p := 2) (u1 := 3) (u2 := 4) rfl _ _ w.heap.size _ _ _ _ rfl hb'.out Tryz.underlying52 rfl (by rw [List.size_toArray, hl]; kernel_rfl)) rfl ?_
          exact ⟨by rw [HP.out]; rfl, hg'.out⟩
end Go.Proofs.YtcdcmohccbhchaaGreatDoor

/- The reference's decimal, text, increasing and moderators. The reference's increasing and moderators. The reference's names of groups: Component, Parts, Check. The reference's texts of message identifiers. The reference's Same: whether two commands are equal. The reference's only and Check. The reference's Check: the first error of a command. The reference's text of bytes in base64. The reference's Print. The reference's Print at definitions, and at every command. -/
import Derived.Test.YtcdcmohccbhchaaGreatDoorBD
import Derived.Test.YtcdcmohccbhchaaGreatDoorBB
import Derived.Test.YtcdcmohccbhchaaGreatDoorBE
import Derived.Test.YtcdcmohccbhchaaGreatDoorBF
namespace Go.Proofs.YtcdcmohccbhchaaGreatDoor
open Go.RowKit

theorem d10_fin : ∀ q : Fin 10, (⟨#[48, 49, 50, 51, 52, 53, 54, 55, 56, 57]⟩ : ByteArray).extract q.val (q.val + 1) = bs [UInt8.ofNat (48 + q.val)] := by decide +kernel
theorem d10_ext (q : Nat) (h : q < 10) : (⟨#[48, 49, 50, 51, 52, 53, 54, 55, 56, 57]⟩ : ByteArray).extract q (q + 1) = bs [UInt8.ofNat (48 + q)] := d10_fin ⟨q, h⟩
set_option maxRecDepth 100000 in
set_option maxHeartbeats 1000000 in
theorem refDecSmall (n : Nat) (h : n < 10) (w : World) : Calls Tryz.prog 37 #[.int .i64 (n : Int)] w fun e w' => e = .returned (.string (bs (Lib.decDigits n))) ∧ Gr w w' := by
  have i1 : (n : Int) < 10 := by omega
  have b1 : (0 : Int) ≤ (n : Int) + 1 := by omega
  have b2 : (n : Int) + 1 ≤ 10 := by omega
  have b3 : (n : Int) ≤ (n : Int) + 1 := by omega
  have t1 : ((n : Int) + 1).toNat = n + 1 := by omega
  have E := Lib.hid (d10_ext n h)
  have w1 : IntKind.i64.wrap ((n : Int) + 1) = (n : Int) + 1 := by rw [IntKind.wrap_i64]; omega
  go_enter Tryz.func37, Tryz.ntmps37
  go_wp2_with fail
  go_ret
  exact ⟨by rw [dec_small h, ← E.out]; rfl, Gr.refl _⟩
set_option maxRecDepth 100000 in
set_option maxHeartbeats 2000000 in
theorem refDecC : ∀ (N n : Nat), n ≤ N → n ≤ 1000000000 → ∀ w : World, Calls Tryz.prog 37 #[.int .i64 (n : Int)] w fun e w' => e = .returned (.string (bs (Lib.decDigits n))) ∧ Gr w w' := by
  intro N
  induction N with
  | zero => intro n hn _ w; exact refDecSmall n (by omega) w
  | succ N ih =>
    intro n hn h9 w
    by_cases h : n < 10
    · exact refDecSmall n h w
    · have HD : Hid (∀ W, Calls Tryz.prog 37 #[.int .i64 ((n / 10 : Nat) : Int)] W fun e w' => e = .returned (.string (bs (Lib.decDigits (n / 10)))) ∧ Gr W w') := fun W => ih (n / 10) (by omega) (by omega) W
      have i1 : ¬ (n : Int) < 10 := by omega
      have HB : Hid (bs (Lib.decDigits (n / 10)) ++ bs [UInt8.ofNat (48 + n % 10)] = bs (Lib.decDigits n)) := by show _ = _; rw [bs_app, ← dec_big h]
      have hsz : (bs (Lib.decDigits (n / 10))).size ≤ 9 := by show (Lib.decDigits (n / 10)).toArray.size ≤ 9; rw [List.size_toArray]; exact dec_len 8 _ (by omega)
      obtain ⟨q, hq, hqn⟩ : ∃ q : Nat, (n : Int) / 10 = (q : Int) ∧ n / 10 = q := ⟨n / 10, by omega, rfl⟩
      obtain ⟨r, hr, hrn, hr10⟩ : ∃ r : Nat, (n : Int) % 10 = (r : Int) ∧ n % 10 = r ∧ r < 10 := ⟨n % 10, by omega, rfl, by omega⟩
      rw [hqn] at HD HB hsz
      rw [hrn] at HB
      have E := d10_ext r hr10
      have z1 : (bs [UInt8.ofNat (48 + r)]).size = 1 := rfl
      generalize bs [UInt8.ofNat (48 + r)] = d1 at *
      generalize bs (Lib.decDigits q) = s at *
      have b1 : (0 : Int) ≤ (r : Int) + 1 := by omega
      have b2 : (r : Int) + 1 ≤ 10 := by omega
      have b3 : (r : Int) ≤ (r : Int) + 1 := by omega
      have t1 : ((r : Int) + 1).toNat = r + 1 := by omega
      have w1 : IntKind.i64.wrap ((r : Int) + 1) = (r : Int) + 1 := by rw [IntKind.wrap_i64]; omega
      have n1 : ¬ 9223372036854775807 < s.size + 1 := by omega
      have hrt : (n : Int).tmod 10 = (r : Int) := by rw [Int.tmod_eq_emod_of_nonneg (by omega)]; exact hr
      have w0 : IntKind.i64.wrap (q : Int) = (q : Int) := by rw [IntKind.wrap_i64]; omega
      clear hqn hrn ih hn
      go_enter Tryz.func37, Tryz.ntmps37
      go_wp2_with fail
      go_region_held_law (fun _ => True) (trivial)
        (first | (go_at_call 37; with_reducible refine (HD.out _).mono ?_; rintro e w1 ⟨rfl, hg1⟩))
      all_goals
        go_wp2_with fail
        go_ret
        exact ⟨by rw [← HB.out]; rfl, (Gr.refl w).drew.trans hg1⟩
/-! ### text -/
def oddB (c : UInt8) : Bool := decide (c < 32) || decide (126 < c)
theorem odd_iff (c : UInt8) : oddB c = false ↔ 32 ≤ c.toNat ∧ c.toNat ≤ 126 := by
  unfold oddB
  rw [Bool.or_eq_false_iff, decide_eq_false_iff_not, decide_eq_false_iff_not, UInt8.lt_iff_toNat_lt, UInt8.lt_iff_toNat_lt]
  have e1 : (32 : UInt8).toNat = 32 := rfl
  have e2 : (126 : UInt8).toNat = 126 := rfl
  omega
theorem bl_head {s : ByteArray} (h : 0 < s.size) : (bl s).head? = some s[0] := by
  rw [List.head?_eq_getElem?, List.getElem?_eq_getElem (by rw [bl_length]; exact h)]; rfl
theorem bl_last {s : ByteArray} (h : 0 < s.size) : (bl s).getLast? = some (s[s.size - 1]'(by omega)) := by
  rw [List.getLast?_eq_getElem?, bl_length, List.getElem?_eq_getElem (by rw [bl_length]; omega)]; rfl
set_option maxRecDepth 100000 in
set_option maxHeartbeats 2000000 in
theorem refTextC (s : ByteArray) (w : World) : Calls Tryz.prog 49 #[.string s] w fun e w' => e = .returned (.int .i64 (textErr (bl s))) ∧ Gr w w' := by
  have hl := bl_length s
  by_cases h1 : 200 < s.size
  · have HT : Hid (textErr (bl s) = 5) := by show _ = _; unfold textErr; rw [if_pos (by omega)]
    have i1 : 200 < (s.size : Int) := by omega
    go_enter Tryz.func49, Tryz.ntmps49
    go_wp2_with fail
    go_ret
    exact ⟨ret_int HT.out.symm, Gr.refl _⟩
  · have i1 : ¬ 200 < (s.size : Int) := by omega
    have HO : Hid (∀ k (hk : k < s.size), oddB s[k] = true → textErr (bl s) = 6) := fun k hk ho => by
      unfold textErr
      rw [if_neg (by omega), if_pos]
      refine List.any_eq_true.2 ⟨s[k], ?_, ho⟩
      have e : (bl s)[k]'(by rw [hl]; exact hk) = s[k] := rfl
      rw [← e]; exact List.getElem_mem _
    have HA : Hid ((∀ k (hk : k < s.size), oddB s[k] = false) → textErr (bl s) = if (bl s).head? = some 32 ∨ (bl s).getLast? = some 32 then 3 else 0) := fun hall => by
      unfold textErr
      rw [if_neg (by omega), if_neg]
      intro ha
      obtain ⟨c, hc, hb⟩ := List.any_eq_true.1 ha
      obtain ⟨k, hk, rfl⟩ := List.getElem_of_mem hc
      have := hall k (by rw [← hl]; exact hk)
      have e : (bl s)[k] = s[k]'(by rw [← hl]; exact hk) := rfl
      rw [e] at hb
      unfold oddB at this
      rw [this] at hb; cases hb
    clear hl
    go_enter Tryz.func49, Tryz.ntmps49
    go_wp2_with fail
    go_loop [3, 7, 8, 9, 10, 11, 12, 13, 14, 15, 16, 17, 18, 19, 20, 21, 22] (fun i _ _ _ _ _ _ _ _ _ _ _ _ _ _ _ _ => ∃ k : Nat, k ≤ s.size ∧ i = .int .i64 k ∧ Hid (∀ j (hj : j < s.size), j < k → oddB s[j] = false)) (fun i _ _ _ _ _ _ _ _ _ _ _ _ _ _ _ _ => s.size - (intOf i).toNat)
    case atStart => exact ⟨0, Nat.zero_le _, rfl, fun j _ h => absurd h (by omega)⟩
    case round =>
      obtain ⟨k, hk, rfl, hall⟩ := hrel
      by_cases hlt : k < s.size
      · have hk1 : (k : Int) < (s.size : Int) := by omega
        have hk2 : (0 : Int) ≤ (k : Int) := by omega
        by_cases ho : oddB s[k] = true
        · have HE := Lib.hid (HO.out k hlt ho)
          have hc : s[k].toNat < 32 ∨ 126 < s[k].toNat := by
            have := mt (odd_iff s[k]).2 (by rw [ho]; decide)
            omega
          clear HO HA hall ho
          rcases hc with hc | hc
          · have y1 : (s[k].toNat : Int) < 32 := by omega
            go_wp2_with fail
            go_ret
            exact ⟨ret_int HE.out.symm, Gr.refl _⟩
          · have y1 : ¬ (s[k].toNat : Int) < 32 := by omega
            have y2 : 126 < (s[k].toNat : Int) := by omega
            go_wp2_with fail
            go_ret
            exact ⟨ret_int HE.out.symm, Gr.refl _⟩
        · have ho' : oddB s[k] = false := by simpa using ho
          obtain ⟨o1, o2⟩ := (odd_iff s[k]).1 ho'
          have y1 : ¬ (s[k].toNat : Int) < 32 := by omega
          have y2 : ¬ 126 < (s[k].toNat : Int) := by omega
          have HN : Hid (∀ j (hj : j < s.size), j < k + 1 → oddB s[j] = false) := fun j hj hjk => by
            by_cases e : j = k
            · subst e; exact ho'
            · exact hall.out j hj (by omega)
          clear HO HA hall ho ho' o1 o2
          go_wp2_with fail
          go_round
          case rel => exact ⟨k + 1, by omega, by go_num, HN.out⟩
          case measure => simp [intOf]; omega
      · have hk1 : ¬ (k : Int) < (s.size : Int) := by omega
        have HE := Lib.hid (HA.out (fun j hj => hall.out j hj (by omega)))
        clear HO HA hall
        by_cases h0 : s.size = 0
        · have hs : s = ⟨#[]⟩ := bl_inj (by rw [List.length_eq_zero_iff.1 ((bl_length s).trans h0)]; rfl)
          subst hs
          go_wp2_with fail
          go_ret
          exact ⟨ret_int (by rw [HE.out]; rfl), Gr.refl _⟩
        · have hp : 0 < s.size := by omega
          have hne : s.toList.isEmpty = false := by rw [bl_toList, List.isEmpty_eq_false_iff]; intro e; have := bl_length s; rw [e] at this; simp at this; omega
          have e1 : ((s.size : Int) - 1).toNat = s.size - 1 := by omega
          have e2 : (0 : Int) ≤ (s.size : Int) - 1 := by omega
          have e3 : (s.size : Int) - 1 < (s.size : Int) := by omega
          have e4 : (0 : Int) < (s.size : Int) := by omega
          have hh := bl_head hp
          have hla := bl_last hp
          rw [hh, hla] at HE
          have cvt : ∀ x : UInt8, x = 32 ↔ x.toNat = 32 := fun x => ⟨fun h => by rw [h]; rfl, fun h => UInt8.toNat_inj.1 h⟩
          simp only [Option.some.injEq, cvt] at HE
          clear hh hla cvt
          by_cases q1 : s[0].toNat = 32
          · have y1 : ((s[0].toNat : Int) == 32) = true := by simp; omega
            rw [if_pos (.inl q1)] at HE
            go_wp2_with fail
            go_ret
            exact ⟨ret_int HE.out.symm, Gr.refl _⟩
          · have y1 : ((s[0].toNat : Int) == 32) = false := by simp; omega
            by_cases q2 : (s[s.size - 1]'(by omega)).toNat = 32
            · have y2 : (((s[s.size - 1]'(by omega)).toNat : Int) == 32) = true := by simp; omega
              rw [if_pos (.inr q2)] at HE
              go_wp2_with fail
              go_ret
              exact ⟨ret_int HE.out.symm, Gr.refl _⟩
            · have y2 : (((s[s.size - 1]'(by omega)).toNat : Int) == 32) = false := by simp; omega
              rw [if_neg (by rintro (h | h); exact q1 h; exact q2 h)] at HE
              go_wp2_with fail
              go_ret
              exact ⟨ret_int HE.out.symm, Gr.refl _⟩
end Go.Proofs.YtcdcmohccbhchaaGreatDoor

namespace Go.Proofs.YtcdcmohccbhchaaGreatDoor
open Go.RowKit

theorem cell_row {w : World} {b k n : Nat} {cs : List Value} (h1 : hasRow w ⟨b, k, none⟩ n = true) (h2 : rowAt w ⟨b, k, none⟩ n = cs) (m : Nat) (hm : m < n) : w.cell? ⟨b, k + m, none⟩ = cs[m]? := by
  subst h2
  have h := hasRow_iff.1 h1 m hm
  rw [Addr.add_lit] at h
  unfold rowAt
  rw [List.getElem?_map, List.getElem?_range hm, Option.map_some, Addr.add_lit]
  cases hc : w.cell? ⟨b, k + m, none⟩ with
  | none => rw [hc] at h; cases h
  | some v => rfl
theorem incA_step (l : List Aut) (k : Nat) (hk : k + 1 < l.length) : incA (l.drop k) = (decide (Lib.compareBytes l[k].toList l[k + 1].toList < 0) && incA (l.drop (k + 1))) := by
  rw [List.drop_eq_getElem_cons (by omega : k < l.length), List.drop_eq_getElem_cons hk, incA]
theorem incA_end (l : List Aut) (k : Nat) (h : l.length ≤ k + 1) : incA (l.drop k) = true := by
  have hl : (l.drop k).length ≤ 1 := by rw [List.length_drop]; omega
  cases h : l.drop k with
  | nil => rfl
  | cons a t =>
    rw [h] at hl
    cases t with
    | nil => rfl
    | cons b t => simp at hl
/-- How far two authors are known to be equal. -/
def cmpFrom (x y : Aut) (m : Nat) : Int := Lib.compareBytes (x.toList.drop m) (y.toList.drop m)
theorem cmpFrom_step (x y : Aut) (m : Nat) (h : m < 16) : cmpFrom x y m = orI (cmpI (x[m].toNat : Int) (y[m].toNat : Int)) (cmpFrom x y (m + 1)) := by
  unfold cmpFrom
  rw [cmpL_step x.toList y.toList m (by simpa using h) (by simpa using h)]; rfl
theorem cmpFrom_end (x y : Aut) : cmpFrom x y 16 = 0 := by
  unfold cmpFrom
  rw [List.drop_of_length_le (by simp), List.drop_of_length_le (by simp)]; rfl
theorem cmpFrom_eq (x y : Aut) (m : Nat) (h : m < 16) (e : x[m].toNat = y[m].toNat) : cmpFrom x y m = cmpFrom x y (m + 1) := by
  rw [cmpFrom_step x y m h, e, cmpI_self]; rfl
theorem cmpFrom_ne (x y : Aut) (m : Nat) (h : m < 16) (e : x[m].toNat ≠ y[m].toNat) : cmpFrom x y m < 0 ↔ ¬ y[m].toNat < x[m].toNat := by
  rw [cmpFrom_step x y m h]
  unfold orI cmpI
  by_cases h1 : (x[m].toNat : Int) < (y[m].toNat : Int)
  · rw [if_pos h1, if_neg (by decide)]; omega
  · rw [if_neg h1, if_pos (by omega : (y[m].toNat : Int) < (x[m].toNat : Int)), if_neg (by decide)]; omega
set_option maxRecDepth 100000 in
set_option maxHeartbeats 4000000 in
theorem refIncC (l : List Aut) (v : Value) (w : World) (hv : AutsAt w v l) (hl : l.length ≤ 1000000) :
    Calls Tryz.prog 77 #[v] w fun e w' => e = .returned (.bool (incA l)) ∧ Gr w w' := by
  obtain ⟨a, cap, rfl, hc, hj⟩ := hv
  have e1 : (l.map bC).length = l.length := by simp
  rw [e1] at hc ⊢
  have HJ := Lib.hid hj
  have HI : Hid (incA (l.drop 0) = incA l) := rfl
  clear hj e1
  go_enter Tryz.func77, Tryz.ntmps77
  go_wp2_with fail
  go_loopw [3, 4, 5, 6, 7, 8, 9, 10, 11, 12, 13, 14, 15, 16, 17, 18, 19, 20, 21, 22, 23, 24, 25, 26, 27, 28, 29, 30, 31, 32, 33, 34, 35, 36, 37, 38, 39, 40, 41, 42, 43, 44, 45, 46, 47, 48] (fun i _ _ _ _ _ _ _ _ _ _ _ _ _ _ _ _ _ _ _ _ _ _ _ _ _ _ _ _ _ _ _ _ _ _ _ _ _ _ _ _ _ _ _ _ _ wr => ∃ k : Nat, k ≤ l.length ∧ i = .int .i64 ((k : Int) + 1) ∧ Hid (incA (l.drop k) = incA l) ∧ ∃ q, wr = w.drewN q) (fun i _ _ _ _ _ _ _ _ _ _ _ _ _ _ _ _ _ _ _ _ _ _ _ _ _ _ _ _ _ _ _ _ _ _ _ _ _ _ _ _ _ _ _ _ _ _ => l.length + 1 - (intOf i).toNat)
  case atStart => exact ⟨0, Nat.zero_le _, rfl, HI.out, 0, rfl⟩
  case round =>
    obtain ⟨k, hk, rfl, hin, q, rfl⟩ := hrel
    by_cases hlt : k + 1 < l.length
    · obtain ⟨b1, o1, rfl, z1, h1, h2⟩ := HJ.out k (by simp; omega)
      obtain ⟨b2, o2, hb2, z2, h3, h4⟩ := HJ.out (k + 1) (by simpa using hlt)
      obtain ⟨rfl, rfl⟩ : b1 = b2 ∧ o1 = o2 := by simpa using hb2
      rw [List.getElem_map] at h2 h4
      have HST := Lib.hid (incA_step l k hlt)
      have hk1 : (k : Int) + 1 < (l.length : Int) := by omega
      have hk2 : (0 : Int) ≤ (k : Int) + 1 := by omega
      have hk3 : (k : Int) + 1 - 1 = (k : Int) := by omega
      have hk4 : (0 : Int) ≤ (k : Int) := by omega
      have hk5 : (k : Int) < (l.length : Int) := by omega
      have hk6 : ((k : Int) + 1).toNat = k + 1 := by omega
      have c1 : Hid (∀ m, m < 16 → w.cell? ⟨b1, o1 + k * 16 + m, none⟩ = (bC l[k])[m]?) := fun m hm => cell_row h1 h2 m hm
      have c2 : Hid (∀ m, m < 16 → w.cell? ⟨b1, o1 + (k + 1) * 16 + m, none⟩ = (bC l[k + 1])[m]?) := fun m hm => cell_row h3 h4 m hm
      have HX : Hid (cmpFrom l[k] l[k + 1] 0 = Lib.compareBytes l[k].toList l[k + 1].toList) := rfl
      generalize l[k] = x at *
      generalize l[k + 1] = y at *
      clear hb2 h1 h2 h3 h4
      go_wp2_with fail
      go_loopw [4, 11, 12, 13, 14, 15, 16, 17, 18, 19, 20, 21, 22, 23, 24, 25, 26, 27, 28, 29, 30] (fun i _ _ _ _ _ _ _ _ _ _ _ _ _ _ _ _ _ _ _ _ wr => ∃ m : Nat, m ≤ 16 ∧ i = .int .i64 (m : Int) ∧ Hid (cmpFrom x y 0 = cmpFrom x y m) ∧ ∃ q, wr = w.drewN q) (fun i _ _ _ _ _ _ _ _ _ _ _ _ _ _ _ _ _ _ _ _ _ => 16 - (intOf i).toNat)
      case atStart => exact ⟨0, Nat.zero_le _, rfl, rfl, _, rfl⟩
      case round =>
        obtain ⟨m, hm, rfl, hcm, q2, rfl⟩ := hrel
        by_cases hm16 : m < 16
        · have hm1 : (m : Int) < 16 := by omega
          have hm2 : (0 : Int) ≤ (m : Int) := by omega
          have hm3 : ((m : Int) == 16) = false := by simp; omega
          have d1 := (c1.out m hm16).trans (bC_at x m hm16)
          have d2 := (c2.out m hm16).trans (bC_at y m hm16)
          by_cases hxy : x[m].toNat = y[m].toNat
          · have HC := Lib.hid (hcm.out.trans (cmpFrom_eq x y m hm16 hxy))
            have y1 : ((x[m].toNat : Int) == (y[m].toNat : Int)) = true := by simp [hxy]
            rw [hxy] at d1 y1
            go_wp2_with fail
            go_quiet (fail)
            go_wp2_with fail
            go_roundw
            case rel => exact ⟨m + 1, by omega, by go_num, HC.out, _, rfl⟩
            case measure => simp [intOf]; omega
          · have HN := Lib.hid (cmpFrom_ne x y m hm16 hxy)
            rw [← hcm.out, HX.out] at HN
            have y1 : ((x[m].toNat : Int) == (y[m].toNat : Int)) = false := by simp; omega
            generalize x[m].toNat = p at *
            generalize y[m].toNat = r at *
            by_cases hrp : r < p
            · have y2 : (r : Int) < (p : Int) := by omega
              have HF : Hid (incA l = false) := by
                show _ = _
                rw [← hin.out, HST.out, decide_eq_false (fun q => HN.out.1 q hrp)]; rfl
              clear HN HST
              go_wp2_with fail
              go_quiet (fail)
              go_wp2_with fail
              go_quiet (fail)
              go_wp2_with fail
              go_ret
              exact ⟨ret_bool HF.out.symm, (((Gr.refl w).drewN _).drewN _).drewN _⟩
            · have y2 : ¬ (r : Int) < (p : Int) := by omega
              have HF : Hid (incA (l.drop (k + 1)) = incA l) := by
                show _ = _
                rw [← hin.out, HST.out, decide_eq_true (HN.out.2 hrp)]; rfl
              clear HN HST
              go_wp2_with fail
              go_quiet (fail)
              go_wp2_with fail
              go_quiet (fail)
              go_wp2_with fail
              go_roundw
              case rel => exact ⟨k + 1, by omega, by go_num, HF.out, _, rfl⟩
              case measure => simp [intOf]; omega
        · obtain rfl : m = 16 := by omega
          have HF : Hid (incA l = false) := by
            show _ = _
            rw [← hin.out, HST.out, ← HX.out, hcm.out, cmpFrom_end]; rfl
          clear HST HX hcm
          go_wp2_with fail
          go_quiet (fail)
          go_wp2_with fail
          go_quiet (fail)
          go_wp2_with fail
          go_ret
          exact ⟨ret_bool HF.out.symm, (((Gr.refl w).drewN _).drewN _).drewN _⟩
    · have hk1 : ¬ (k : Int) + 1 < (l.length : Int) := by omega
      have HE := Lib.hid (incA_end l k (by omega))
      rw [hin.out] at HE
      go_wp2_with fail
      go_ret
      exact ⟨ret_bool HE.out.symm, (Gr.refl w).drewN _⟩
set_option maxRecDepth 100000 in
set_option maxHeartbeats 1000000 in
theorem refModsC (l : List Aut) (v : Value) (w : World) (hv : AutsAt w v l) (hl : l.length ≤ 1000000) :
    Calls Tryz.prog 48 #[v] w fun e w' => e = .returned (.int .i64 (modsErr l)) ∧ Gr w w' := by
  have HI := Lib.hid (refIncC l v w hv hl)
  obtain ⟨a, cap, rfl, hc, _⟩ := hv
  have e1 : (l.map bC).length = l.length := by simp
  rw [e1] at hc HI ⊢
  have HM : Hid (modsErr l = if l.length = 0 then 1 else if 8 < l.length then 9 else if incA l = false then 30 else 0) := rfl
  generalize modsErr l = r at *
  generalize incA l = b at *
  generalize l.length = n at *
  by_cases h1 : n = 0
  · subst h1
    go_enter Tryz.func48, Tryz.ntmps48
    go_wp2_with fail
    go_ret
    exact ⟨ret_int (by rw [HM.out]; rfl), Gr.refl _⟩
  · have i1 : ((n : Int) == 0) = false := by simp; omega
    by_cases h2 : 8 < n
    · have i2 : 8 < (n : Int) := by omega
      go_enter Tryz.func48, Tryz.ntmps48
      go_wp2_with fail
      go_ret
      exact ⟨ret_int (by rw [HM.out, if_neg h1, if_pos h2]), Gr.refl _⟩
    · have i2 : ¬ 8 < (n : Int) := by omega
      cases b with
      | true =>
        go_enter Tryz.func48, Tryz.ntmps48
        go_wp2_with (go_at_call 77; refine HI.out.mono ?_; rintro e w1 ⟨rfl, hg1⟩)
        go_ret
        exact ⟨ret_int (by rw [HM.out, if_neg h1, if_neg h2]; rfl), hg1⟩
      | false =>
        go_enter Tryz.func48, Tryz.ntmps48
        go_wp2_with (go_at_call 77; refine HI.out.mono ?_; rintro e w1 ⟨rfl, hg1⟩)
        go_ret
        exact ⟨ret_int (by rw [HM.out, if_neg h1, if_neg h2]; rfl), hg1⟩
end Go.Proofs.YtcdcmohccbhchaaGreatDoor

namespace Go.Proofs.YtcdcmohccbhchaaGreatDoor
open Go.RowKit

/-! ### Component -/
theorem bad_iff (c : Nat) : badB (c : Int) = false ↔ (97 ≤ c ∧ c ≤ 122) ∨ (48 ≤ c ∧ c ≤ 57) ∨ c = 45 ∨ c = 43 ∨ c = 95 := by
  have h1 : badB (c : Int) = decide (¬ ((97 ≤ c ∧ c ≤ 122) ∨ (48 ≤ c ∧ c ≤ 57) ∨ c = 45 ∨ c = 43 ∨ c = 95)) := by
    unfold badB lowB
    rw [Bool.eq_iff_iff]
    simp
    omega
  rw [h1, decide_eq_false_iff_not, Classical.not_not]
theorem comp_bad {s : ByteArray} (h0 : 0 < s.size) (h1 : s.size ≤ 20) (k : Nat) (hk : k < s.size) (hb : badB (s[k].toNat : Int) = true) : compB s = false := by
  have : (bl s).any (fun c => badB c.toNat) = true := List.any_eq_true.2 ⟨s[k], by
    have e : (bl s)[k]'(by rw [bl_length]; exact hk) = s[k] := rfl
    rw [← e]; exact List.getElem_mem _, hb⟩
  rw [compB_eq s h0 h1, this]; simp
theorem comp_good {s : ByteArray} (h0 : 0 < s.size) (h1 : s.size ≤ 20) (hl : lowB (s[0].toNat : Int) = true) (hall : ∀ j (hj : j < s.size), 1 ≤ j → badB (s[j].toNat : Int) = false) : compB s = true := by
  rw [compB_eq s h0 h1, hl, Bool.true_and, Bool.not_eq_true', List.any_eq_false]
  intro c hc
  obtain ⟨j, hj, rfl⟩ := List.getElem_of_mem hc
  rw [bl_length] at hj
  have e : (bl s)[j]'(by rw [bl_length]; exact hj) = s[j] := rfl
  rw [e]
  by_cases h : 1 ≤ j
  · simp [hall j hj h]
  · obtain rfl : j = 0 := by omega
    unfold lowB at hl
    simp only [Bool.and_eq_true, decide_eq_true_eq] at hl
    have := (bad_iff s[0].toNat).2 (.inl (by omega))
    simp [this]
set_option maxRecDepth 100000 in
set_option maxHeartbeats 4000000 in
theorem compRC (s : ByteArray) (w : World) : Calls Tryz.prog 76 #[.string s] w fun e w' => e = .returned (.bool (compB s)) ∧ w = w' := by
  by_cases h0 : s.size = 0
  · have hf : Hid (compB s = false) := by show _ = _; unfold compB; simp [h0]
    have i1 : (s.size : Int) < 1 := by omega
    clear h0
    go_enter Tryz.func76, Tryz.ntmps76
    go_wp2_with fail
    go_ret
    exact ⟨ret_bool hf.out.symm, rfl⟩
  · have hp : 0 < s.size := by omega
    have i1 : ¬ (s.size : Int) < 1 := by omega
    by_cases h1 : 20 < s.size
    · have hf : Hid (compB s = false) := by show _ = _; unfold compB; simp [show ¬ s.size ≤ 20 by omega]
      have i2 : 20 < (s.size : Int) := by omega
      go_enter Tryz.func76, Tryz.ntmps76
      go_wp2_with fail
      go_ret
      exact ⟨ret_bool hf.out.symm, rfl⟩
    · have i2 : ¬ 20 < (s.size : Int) := by omega
      have i3 : (0 : Int) < (s.size : Int) := by omega
      have HBAD := Lib.hid (comp_bad hp (by omega))
      have HGOOD := Lib.hid (comp_good hp (by omega))
      cases hl : lowB (s[0].toNat : Int) with
      | false =>
        have hf : Hid (compB s = false) := by show _ = _; rw [compB_eq s hp (by omega), hl]; rfl
        have hc : s[0].toNat < 97 ∨ 122 < s[0].toNat := by
          unfold lowB at hl
          simp only [Bool.and_eq_false_iff, decide_eq_false_iff_not] at hl
          omega
        clear hl HBAD HGOOD
        by_cases h9 : s[0].toNat < 97
        · have y1 : (s[0].toNat : Int) < 97 := by omega
          go_enter Tryz.func76, Tryz.ntmps76
          go_wp2_with fail
          go_ret
          exact ⟨ret_bool hf.out.symm, rfl⟩
        · have y1 : ¬ (s[0].toNat : Int) < 97 := by omega
          have y2 : 122 < (s[0].toNat : Int) := by omega
          clear hc h9
          go_enter Tryz.func76, Tryz.ntmps76
          go_wp2_with fail
          go_ret
          exact ⟨ret_bool hf.out.symm, rfl⟩
      | true =>
        have HL := Lib.hid hl
        have hc : 97 ≤ s[0].toNat ∧ s[0].toNat ≤ 122 := by
          unfold lowB at hl
          simp only [Bool.and_eq_true, decide_eq_true_eq] at hl
          omega
        have y1 : ¬ (s[0].toNat : Int) < 97 := by omega
        have y2 : ¬ 122 < (s[0].toNat : Int) := by omega
        clear hl hc
        go_enter Tryz.func76, Tryz.ntmps76
        go_wp2_with fail
        clear y1 y2
        go_loop [3, 4, 23, 24, 25, 26, 27, 28, 29, 30, 31, 32, 33, 34, 35, 36, 37, 38, 39, 40, 41, 42, 43, 44, 45, 46, 47, 48, 49, 50, 51, 52, 53, 54, 55, 56, 57, 58] (fun i _ _ _ _ _ _ _ _ _ _ _ _ _ _ _ _ _ _ _ _ _ _ _ _ _ _ _ _ _ _ _ _ _ _ _ _ _ => ∃ k : Nat, 1 ≤ k ∧ k ≤ s.size ∧ i = .int .i64 k ∧ Hid (∀ j (hj : j < s.size), 1 ≤ j → j < k → badB (s[j].toNat : Int) = false)) (fun i _ _ _ _ _ _ _ _ _ _ _ _ _ _ _ _ _ _ _ _ _ _ _ _ _ _ _ _ _ _ _ _ _ _ _ _ _ => s.size - (intOf i).toNat)
        case atStart => exact ⟨1, Nat.le_refl _, hp, rfl, fun j _ h1 h2 => absurd h2 (by omega)⟩
        case round =>
          obtain ⟨k, hk1, hk, rfl, hall⟩ := hrel
          by_cases hlt : k < s.size
          · have q1 : (k : Int) < (s.size : Int) := by omega
            have q2 : (0 : Int) ≤ (k : Int) := by omega
            have HB := Lib.hid (HBAD.out k hlt)
            have HN := Lib.hid (fun (h : badB (s[k].toNat : Int) = false) => (show ∀ j (hj : j < s.size), 1 ≤ j → j < k + 1 → badB (s[j].toNat : Int) = false from fun j hj h1 h2 => by
              by_cases e : j = k
              · subst e; exact h
              · exact hall.out j hj h1 (by omega)))
            have HI := Lib.hid (bad_iff s[k].toNat)
            clear hall HBAD HGOOD
            by_cases b1 : 97 ≤ s[k].toNat
            · have z1 : 97 ≤ (s[k].toNat : Int) := by omega
              by_cases b2 : s[k].toNat ≤ 122
              · have z2 : (s[k].toNat : Int) ≤ 122 := by omega
                have HE := Lib.hid (HN.out (HI.out.2 (.inl ⟨b1, b2⟩)))
                clear HN HI HB b1 b2
                go_wp2_with fail
                go_round
                case rel => exact ⟨k + 1, by omega, by omega, by go_num, HE.out⟩
                case measure => simp [intOf]; omega
              · have z2 : ¬ (s[k].toNat : Int) ≤ 122 := by omega
                have z3 : 48 ≤ (s[k].toNat : Int) := by omega
                have z4 : ¬ (s[k].toNat : Int) ≤ 57 := by omega
                have z5 : ((s[k].toNat : Int) == 45) = false := by simp; omega
                have z6 : ((s[k].toNat : Int) == 43) = false := by simp; omega
                have z7 : ((s[k].toNat : Int) == 95) = false := by simp; omega
                have HE := Lib.hid (HB.out (by cases h : badB (s[k].toNat : Int) with | true => rfl | false => have := HI.out.1 h; omega))
                clear HN HI HB b1 b2
                go_wp2_with fail
                go_ret
                exact ⟨ret_bool HE.out.symm, rfl⟩
            · have z1 : ¬ 97 ≤ (s[k].toNat : Int) := by omega
              by_cases b3 : 48 ≤ s[k].toNat
              · have z3 : 48 ≤ (s[k].toNat : Int) := by omega
                by_cases b4 : s[k].toNat ≤ 57
                · have z4 : (s[k].toNat : Int) ≤ 57 := by omega
                  have HE := Lib.hid (HN.out (HI.out.2 (.inr (.inl ⟨b3, b4⟩))))
                  clear HN HI HB b1 b3 b4
                  go_wp2_with fail
                  go_round
                  case rel => exact ⟨k + 1, by omega, by omega, by go_num, HE.out⟩
                  case measure => simp [intOf]; omega
                · have z4 : ¬ (s[k].toNat : Int) ≤ 57 := by omega
                  have z5 : ((s[k].toNat : Int) == 45) = false := by simp; omega
                  have z6 : ((s[k].toNat : Int) == 43) = false := by simp; omega
                  by_cases b7 : s[k].toNat = 95
                  · have HE := Lib.hid (HN.out (HI.out.2 (.inr (.inr (.inr (.inr b7))))))
                    have z7 : ((s[k].toNat : Int) == 95) = true := by simp; omega
                    clear HN HI HB b1 b3 b4 b7
                    go_wp2_with fail
                    go_round
                    case rel => exact ⟨k + 1, by omega, by omega, by go_num, HE.out⟩
                    case measure => simp [intOf]; omega
                  · have z7 : ((s[k].toNat : Int) == 95) = false := by simp; omega
                    have HE := Lib.hid (HB.out (by cases h : badB (s[k].toNat : Int) with | true => rfl | false => have := HI.out.1 h; omega))
                    clear HN HI HB b1 b3 b4 b7
                    go_wp2_with fail
                    go_ret
                    exact ⟨ret_bool HE.out.symm, rfl⟩
              · have z3 : ¬ 48 ≤ (s[k].toNat : Int) := by omega
                by_cases b5 : s[k].toNat = 45
                · have HE := Lib.hid (HN.out (HI.out.2 (.inr (.inr (.inl b5)))))
                  have z5 : ((s[k].toNat : Int) == 45) = true := by simp; omega
                  clear HN HI HB b1 b3 b5
                  go_wp2_with fail
                  go_round
                  case rel => exact ⟨k + 1, by omega, by omega, by go_num, HE.out⟩
                  case measure => simp [intOf]; omega
                · have z5 : ((s[k].toNat : Int) == 45) = false := by simp; omega
                  by_cases b6 : s[k].toNat = 43
                  · have HE := Lib.hid (HN.out (HI.out.2 (.inr (.inr (.inr (.inl b6))))))
                    have z6 : ((s[k].toNat : Int) == 43) = true := by simp; omega
                    clear HN HI HB b1 b3 b5 b6
                    go_wp2_with fail
                    go_round
                    case rel => exact ⟨k + 1, by omega, by omega, by go_num, HE.out⟩
                    case measure => simp [intOf]; omega
                  · have z6 : ((s[k].toNat : Int) == 43) = false := by simp; omega
                    have z7 : ((s[k].toNat : Int) == 95) = false := by simp; omega
                    have HE := Lib.hid (HB.out (by cases h : badB (s[k].toNat : Int) with | true => rfl | false => have := HI.out.1 h; omega))
                    clear HN HI HB b1 b3 b5 b6
                    go_wp2_with fail
                    go_ret
                    exact ⟨ret_bool HE.out.symm, rfl⟩
          · have q1 : ¬ (k : Int) < (s.size : Int) := by omega
            have HE := Lib.hid (HGOOD.out HL.out (fun j hj h1 => hall.out j hj h1 (by omega)))
            clear HGOOD HBAD hall
            go_wp2_with fail
            go_ret
            exact ⟨ret_bool HE.out.symm, rfl⟩

/-! ### Parts -/
def glueL (p : Str) : List Str → List Str
  | [] => []
  | h :: t => (p ++ h) :: t
theorem glue_nil (l : List Str) : glueL [] l = l := by cases l <;> rfl
theorem glue_hit (p : Str) (t : Str) : glueL p (splitL 46 (46 :: t)) = p :: splitL 46 t := by
  rw [splitL, if_pos rfl]; simp [glueL]
theorem glue_miss (p : Str) {x : UInt8} (t : Str) (h : x ≠ 46) : glueL p (splitL 46 (x :: t)) = glueL (p ++ [x]) (splitL 46 t) := by
  rw [splitL, if_neg h]
  cases hs : splitL 46 t with
  | nil => exact absurd hs (splitL_ne 46 t)
  | cons a l => simp [glueL]
theorem ext_one (s : ByteArray) (k : Nat) (h : k < s.size) : s.extract k (k + 1) = bs [s[k]] := by
  apply ByteArray.ext
  rw [ByteArray.data_extract]
  apply Array.ext'
  rw [Array.toList_extract, List.extract_eq_take_drop, show k + 1 - k = 1 by omega, List.drop_eq_getElem_cons (by simpa using h)]
  rfl
theorem drop_cons (s : ByteArray) (k : Nat) (h : k < s.size) : (bl s).drop k = s[k] :: (bl s).drop (k + 1) := by
  rw [List.drop_eq_getElem_cons (by rw [bl_length]; exact h)]; rfl
def PartsAt (s : ByteArray) (k : Nat) (lo : List ByteArray) (p : ByteArray) : Prop :=
  (partsOf s).map bl = lo.map bl ++ glueL (bl p) (splitL 46 ((bl s).drop k))
theorem PartsAt.start (s : ByteArray) : PartsAt s 0 [] ⟨#[]⟩ := by
  unfold PartsAt
  rw [parts_split]
  exact (glue_nil _).symm
theorem PartsAt.hit {s : ByteArray} {k : Nat} {lo : List ByteArray} {p : ByteArray} (h : PartsAt s k lo p) (hk : k < s.size) (e : s[k].toNat = 46) : PartsAt s (k + 1) (lo ++ [p]) ⟨#[]⟩ := by
  unfold PartsAt at *
  have e' : s[k] = 46 := UInt8.toNat_inj.1 e
  rw [drop_cons s k hk, e', glue_hit] at h
  rw [h]
  show _ = _ ++ glueL [] _
  rw [glue_nil]
  simp
theorem PartsAt.miss {s : ByteArray} {k : Nat} {lo : List ByteArray} {p : ByteArray} (h : PartsAt s k lo p) (hk : k < s.size) (e : s[k].toNat ≠ 46) : PartsAt s (k + 1) lo (p ++ bs [s[k]]) := by
  unfold PartsAt at *
  rw [drop_cons s k hk, glue_miss _ _ (fun e' => e (by rw [e']; rfl))] at h
  rw [h]
  have : bl (p ++ bs [s[k]]) = bl p ++ [s[k]] := by
    have : p = bs (bl p) := rfl
    rw [this, bs_app]; rfl
  rw [this]
theorem bl_map_inj {a b : List ByteArray} (h : a.map bl = b.map bl) : a = b := by
  induction a generalizing b with
  | nil => cases b with
    | nil => rfl
    | cons y b => cases h
  | cons x a ih => cases b with
    | nil => cases h
    | cons y b =>
      rw [List.map_cons, List.map_cons, List.cons.injEq] at h
      rw [bl_inj h.1, ih h.2]
theorem PartsAt.stop {s : ByteArray} {k : Nat} {lo : List ByteArray} {p : ByteArray} (h : PartsAt s k lo p) (hk : s.size ≤ k) : lo ++ [p] = partsOf s := by
  unfold PartsAt at h
  rw [List.drop_of_length_le (by rw [bl_length]; exact hk)] at h
  apply bl_map_inj
  rw [h]
  simp [splitL, glueL]
set_option maxRecDepth 100000 in
set_option maxHeartbeats 4000000 in
theorem partsRC (s : ByteArray) (w : World) (hs : s.size ≤ 1000) : Calls Tryz.prog 75 #[.string s, .int .u8 46] w fun e w' => ∃ v, e = .returned v ∧ OwnS w' w.heap.size v (partsOf s) ∧ Gr w w' := by
  have HS := Lib.hid (PartsAt.start s)
  go_enter Tryz.func75, Tryz.ntmps75
  go_wp2_with fail
  go_loopw [5, 6, 7, 8, 9, 10, 11, 12, 13, 14, 15, 16, 17, 18, 19, 20, 21, 22, 23, 24, 25, 26, 27, 28, 29] (fun so sp i _ _ _ _ _ _ _ _ _ _ _ _ _ _ _ _ _ _ _ _ _ _ wr => ∃ (k : Nat) (lo : List ByteArray) (p : ByteArray), k ≤ s.size ∧ i = .int .i64 k ∧ sp = .string p ∧ p.size ≤ k ∧ lo.length ≤ k ∧ Hid (PartsAt s k lo p) ∧ Hid (Gr w wr) ∧ Hid (OwnS wr w.heap.size so lo)) (fun _ _ i _ _ _ _ _ _ _ _ _ _ _ _ _ _ _ _ _ _ _ _ _ _ _ => s.size - (intOf i).toNat)
  case atStart => exact ⟨0, [], ⟨#[]⟩, Nat.zero_le _, rfl, rfl, Nat.le_refl _, Nat.le_refl _, HS.out, Gr.refl _, OwnS.nil _ _⟩
  case round =>
    obtain ⟨k, lo, p, hk, rfl, rfl, hp, hlo, hP, hG, hO⟩ := hrel
    have HZ := Lib.hid hG.out.size
    have HO7 := Lib.hid (hO.out.gr ((Gr.refl wr).alloc (.cells #[.string p] 9)))
    have HO8 : Hid (OwnS (wr.alloc (.cells #[.string p] 9)) w.heap.size (.slice (some ⟨wr.heap.size, 0, none⟩) 1 1) [p]) := OwnS.made (l := [p]) (heap_alloc_new wr _) HZ.out (by simp)
    have HZ7 : Hid (w.heap.size ≤ (wr.alloc (.cells #[.string p] 9)).heap.size) := by show _ ≤ _; have := HZ.out; simp; omega
    have G2 := Lib.hid (hG.out.alloc (.cells #[.string p] 9))
    have n0 : ¬ 9223372036854775807 < p.size + 1 := by omega
    by_cases hlt : k < s.size
    · have q1 : (k : Int) < (s.size : Int) := by omega
      have q2 : (0 : Int) ≤ (k : Int) := by omega
      have q3 : (0 : Int) ≤ (k : Int) + 1 := by omega
      have q4 : (k : Int) + 1 ≤ (s.size : Int) := by omega
      have q5 : ((k : Int) + 1).toNat = k + 1 := by omega
      have q6 : (k : Int) ≤ (k : Int) + 1 := by omega
      have HX := Lib.hid (ext_one s k hlt)
      have HH := Lib.hid (hP.out.hit hlt)
      have HM := Lib.hid (hP.out.miss hlt)
      rw [← HX.out] at HM
      have hx1 : (s.extract k (k + 1)).size = 1 := by rw [HX.out]; rfl
      clear hP HX
      by_cases hc : s[k].toNat = 46
      · have y1 : ((s[k].toNat : Int) == 46) = true := by simp; omega
        have HE := Lib.hid (HH.out hc)
        clear HH HM hc
        go_wp2_with (refine wpList_append_str _ rfl _ _ rfl w.heap.size u5 lo (by simp [Act.eval]) HO7.out (.slice (some ⟨wr.heap.size, 0, none⟩) 1 1) [p] (by simp [Act.eval]) HO8.out (by simp; omega) HZ7.out ?_; intro a3 c3 w3 ho3 hg3)
        have G3 := Lib.hid (G2.out.grown hg3 (fun q hq => (World.ownsRow.lt HO7.out q hq).1))
        rw [List.length_append, List.length_singleton] at ho3
        have HO3 := Lib.hid ho3
        clear hg3 ho3
        go_roundw
        case rel => exact ⟨k + 1, lo ++ [p], ⟨#[]⟩, by omega, by go_num, rfl, Nat.zero_le _, by simp; omega, HE.out, G3.out, HO3.out⟩
        case measure => simp [intOf]; omega
      · have y1 : ((s[k].toNat : Int) == 46) = false := by simp; omega
        have HE := Lib.hid (HM.out hc)
        clear HH HM hc
        go_wp2_with fail
        go_roundw
        case rel => exact ⟨k + 1, lo, p ++ s.extract k (k + 1), by omega, by go_num, rfl, by rw [ByteArray.size_append]; omega, by omega, HE.out, hG.out, hO.out⟩
        case measure => simp [intOf]; omega
    · have q1 : ¬ (k : Int) < (s.size : Int) := by omega
      have HE := Lib.hid (hP.out.stop (by omega))
      clear hP
      go_wp2_with (refine wpList_append_str _ rfl _ _ rfl w.heap.size u5 lo (by simp [Act.eval]) HO7.out (.slice (some ⟨wr.heap.size, 0, none⟩) 1 1) [p] (by simp [Act.eval]) HO8.out (by simp; omega) HZ7.out ?_; intro a3 c3 w3 ho3 hg3)
      have G3 := Lib.hid (G2.out.grown hg3 (fun q hq => (World.ownsRow.lt HO7.out q hq).1))
      rw [List.length_append, List.length_singleton] at ho3
      have HO3 := Lib.hid ho3
      clear hg3 ho3
      go_ret
      exact ⟨_, rfl, by rw [← HE.out]; exact HO3.out, G3.out⟩

/-! ### Check -/
theorem OwnS.slice {w : World} {base : Nat} {v : Value} {l : List ByteArray} (h : OwnS w base v l) : ∃ a c, v = .slice a l.length c ∧ ∀ j (hj : j < l.length), ∃ g, a = some ⟨g, 0, none⟩ ∧ g < w.heap.size ∧ w.cell? ⟨g, j, none⟩ = some (.string l[j]) := by
  by_cases h0 : l = []
  · subst h0
    obtain ⟨a, c, rfl, _⟩ := owns_slice h
    exact ⟨a, c, rfl, fun j hj => absurd hj (Nat.not_lt_zero _)⟩
  · obtain ⟨g, c, rfl, _, hg, hc⟩ := h.cells h0
    refine ⟨_, c, rfl, fun j hj => ⟨g, rfl, hg, ?_⟩⟩
    have := hc j l[j] (List.getElem?_eq_getElem hj)
    rwa [Nat.zero_add] at this
theorem any_false_of {l : List ByteArray} (h : ∀ j (hj : j < l.length), compB l[j] = true) : (l.any fun p => !compB p) = false := by
  rw [List.any_eq_false]
  intro p hp
  obtain ⟨j, hj, rfl⟩ := List.getElem_of_mem hp
  simp [h j hj]
set_option maxRecDepth 100000 in
set_option maxHeartbeats 4000000 in
theorem nameRC (s : ByteArray) (w : World) : Calls Tryz.prog 47 #[.string s] w fun e w' => e = .returned (.int .i64 (nameErr s)) ∧ Gr w w' := by
  by_cases h1 : 80 < s.size
  · have hf : Hid (nameErr s = 5) := by show _ = _; unfold nameErr; rw [if_pos h1]
    have i1 : 80 < (s.size : Int) := by omega
    go_enter Tryz.func47, Tryz.ntmps47
    go_wp2_with fail
    go_ret
    exact ⟨ret_int hf.out.symm, Gr.refl w⟩
  · have i1 : ¬ 80 < (s.size : Int) := by omega
    have HP := Lib.hid (partsRC s w (by omega))
    have hl := parts_le s
    have hf : Hid (nameErr s = if ((partsOf s).any fun p => !compB p) = true then 12 else if 10 < (partsOf s).length then 9 else 0) := by show _ = _; unfold nameErr; rw [if_neg h1]
    have HBD : Hid (∀ j (hj : j < (partsOf s).length), compB (partsOf s)[j] = false → ((partsOf s).any fun p => !compB p) = true) := fun j hj h => List.any_eq_true.2 ⟨_, List.getElem_mem hj, by simp [h]⟩
    have HGD := Lib.hid (any_false_of (l := partsOf s))
    generalize partsOf s = l at *
    go_enter Tryz.func47, Tryz.ntmps47
    go_wp2_with fail
    refine HP.out.mono ?_
    rintro e W ⟨v, rfl, hO, hG⟩
    obtain ⟨a, c, rfl, hj⟩ := hO.slice
    have HJ := Lib.hid hj
    have G1 := Lib.hid hG
    clear hO hj hG HP
    go_wp2_with fail
    go_loop [4, 10, 11, 12, 13, 14, 15, 16, 17, 18, 19, 20, 21] (fun i _ _ _ _ _ _ _ _ _ _ _ _ => ∃ k : Nat, k ≤ l.length ∧ i = .int .i64 k ∧ Hid (∀ j (hj : j < l.length), j < k → compB l[j] = true)) (fun i _ _ _ _ _ _ _ _ _ _ _ _ => l.length - (intOf i).toNat)
    case atStart => exact ⟨0, Nat.zero_le _, rfl, fun j _ h => absurd h (Nat.not_lt_zero _)⟩
    case round =>
      obtain ⟨k, hk, rfl, hall⟩ := hrel
      by_cases hlt : k < l.length
      · have q1 : (k : Int) < (l.length : Int) := by omega
        have q2 : (0 : Int) ≤ (k : Int) := by omega
        obtain ⟨g, rfl, hg, hcell⟩ := HJ.out k hlt
        have HB := Lib.hid (HBD.out k hlt)
        have HC := Lib.hid (compRC l[k] W)
        cases hc : compB l[k] with
        | false =>
          rw [hc] at HC
          have HE := Lib.hid (HB.out hc)
          clear hc HB
          generalize l[k] = x at *
          go_wp2_with (go_at_call 76; refine HC.out.mono ?_; rintro e w' ⟨rfl, rfl⟩)
          go_ret
          exact ⟨ret_int (by rw [hf.out, if_pos HE.out]), G1.out⟩
        | true =>
          rw [hc] at HC
          have HN : Hid (∀ j (hj : j < l.length), j < k + 1 → compB l[j] = true) := fun j hj h => by
            by_cases e : j = k
            · subst e; exact hc
            · exact hall.out j hj (by omega)
          clear hc HB hall
          generalize l[k] = x at *
          go_wp2_with (go_at_call 76; refine HC.out.mono ?_; rintro e w' ⟨rfl, rfl⟩)
          go_round
          case rel => exact ⟨k + 1, by omega, by go_num, HN.out⟩
          case measure => simp [intOf]; omega
      · have q1 : ¬ (k : Int) < (l.length : Int) := by omega
        have HE := Lib.hid (HGD.out (fun j hj => hall.out j hj (by omega)))
        clear hall
        by_cases h10 : 10 < l.length
        · have i2 : 10 < (l.length : Int) := by omega
          go_wp2_with fail
          go_ret
          exact ⟨ret_int (by rw [hf.out, HE.out, if_neg (by decide), if_pos h10]), G1.out⟩
        · have i2 : ¬ 10 < (l.length : Int) := by omega
          go_wp2_with fail
          go_ret
          exact ⟨ret_int (by rw [hf.out, HE.out, if_neg (by decide), if_neg h10]), G1.out⟩
end Go.Proofs.YtcdcmohccbhchaaGreatDoor

namespace Go.Proofs.YtcdcmohccbhchaaGreatDoor
open Go.RowKit

@[go_sem] theorem aggRid : aggB Tryz.prog 67 = true := by kernel_rfl
@[go_sem] theorem cellsRid : Tryz.prog.cellsOf 67 = 32 := by kernel_rfl
set_option maxRecDepth 100000 in
set_option maxHeartbeats 4000000 in
theorem refDigitsC (i : Id) (w : World) : Calls Tryz.prog 66 #[.agg (bC i).toArray] w fun e w' => e = .returned (.string (bs (hexT i.toList))) ∧ Gr w w' := by
  have HB := Lib.hid (And.intro ((Gr.refl w).alloc (.cells (bC i).toArray 67)) (heap_alloc_new w (.cells (bC i).toArray 67)))
  go_enter Tryz.func66, Tryz.ntmps66
  go_wp2_with fail
  go_loopw [3, 4, 5, 6, 7, 8, 9, 10, 11, 12, 13, 14, 15, 16, 17, 18, 19, 20, 21, 22, 23, 24, 25, 26, 27, 28, 29] (fun s j _ _ _ _ _ _ _ _ _ _ _ _ _ _ _ _ _ _ _ _ _ _ _ _ _ wr => ∃ k : Nat, k ≤ 32 ∧ j = .int .i64 k ∧ s = .string (bs (hexT (i.toList.take k))) ∧ Hid (Gr w wr) ∧ Hid (wr.heap[w.heap.size]? = some (.cells (bC i).toArray 67 (0, 0)))) (fun _ j _ _ _ _ _ _ _ _ _ _ _ _ _ _ _ _ _ _ _ _ _ _ _ _ _ _ => 32 - (intOf j).toNat)
  case atStart => exact ⟨0, Nat.zero_le _, rfl, rfl, HB.out.1, HB.out.2⟩
  case round =>
    obtain ⟨k, hk, rfl, rfl, hG, hB⟩ := hrel
    by_cases hlt : k < 32
    · have hk1 : (k : Int) < 32 := by omega
      have hk2 : (0 : Int) ≤ (k : Int) := by omega
      have c0 := (cell_block hB.out k).trans (bC_at i k hlt)
      have HT : Hid (bs (hexT (i.toList.take k)) ++ (bs [hexD (i[k].toNat / 16)] ++ bs [hexD (i[k].toNat % 16)]) = bs (hexT (i.toList.take (k + 1)))) := by
        show _ = _
        rw [hexT_take i.toList k (by simpa using hlt), bs_app, bs_app]; rfl
      have hx := i[k].toNat_lt
      generalize i[k].toNat = x at *
      have hsz : (bs (hexT (i.toList.take k))).size ≤ 64 := by
        show (hexT (i.toList.take k)).toArray.size ≤ 64
        rw [List.size_toArray, hexT_len, List.length_take]; omega
      generalize bs (hexT (i.toList.take k)) = s at *
      obtain ⟨q, hq, hq16, hqx⟩ : ∃ q : Nat, (x : Int) / 16 = (q : Int) ∧ q < 16 ∧ x / 16 = q := ⟨x / 16, by omega, by omega, rfl⟩
      obtain ⟨r, hr, hr16, hrx⟩ : ∃ r : Nat, (x : Int) % 16 = (r : Int) ∧ r < 16 ∧ x % 16 = r := ⟨x % 16, by omega, by omega, rfl⟩
      rw [hqx, hrx] at HT
      have E1 := dig_ext q hq16
      have E2 := dig_ext r hr16
      have z1 : (bs [hexD q]).size = 1 := rfl
      have z2 : (bs [hexD r]).size = 1 := rfl
      generalize bs [hexD q] = d1 at *
      generalize bs [hexD r] = d2 at *
      clear hqx hrx
      have n1 : ¬ 9223372036854775807 < s.size + 1 := by omega
      have n2 : ¬ 9223372036854775807 < s.size + (1 + 1) := by omega
      have n3 : ¬ 9223372036854775807 < s.size + 2 := by omega
      have w1 : IntKind.u8.wrap (q : Int) = (q : Int) := by rw [IntKind.wrap_u8]; omega
      have w2 : IntKind.u8.wrap ((q : Int) + 1) = (q : Int) + 1 := by rw [IntKind.wrap_u8]; omega
      have w3 : IntKind.u8.wrap (r : Int) = (r : Int) := by rw [IntKind.wrap_u8]; omega
      have w4 : IntKind.u8.wrap ((r : Int) + 1) = (r : Int) + 1 := by rw [IntKind.wrap_u8]; omega
      have t2 : ((q : Int) + 1).toNat = q + 1 := by omega
      have t4 : ((r : Int) + 1).toNat = r + 1 := by omega
      have b1 : (0 : Int) ≤ (q : Int) + 1 := by omega
      have b2 : (q : Int) + 1 ≤ 16 := by omega
      have b3 : (0 : Int) ≤ (r : Int) + 1 := by omega
      have b4 : (r : Int) + 1 ≤ 16 := by omega
      have b5 : (q : Int) ≤ (q : Int) + 1 := by omega
      have b6 : (r : Int) ≤ (r : Int) + 1 := by omega
      go_wp2_with fail
      go_quiet (fail)
      go_wp2_with fail
      go_quiet (fail)
      go_wp2_with fail
      go_roundw
      case rel => exact ⟨k + 1, by omega, by go_num, congrArg Value.string HT.out, hG.out.drewN _, hB.out⟩
      case measure => simp [intOf]; omega
    · have hk1 : ¬ (k : Int) < 32 := by omega
      have he : Hid (bs (hexT (i.toList.take k)) = bs (hexT i.toList)) := by show _ = _; rw [List.take_of_length_le (by simp; omega)]
      go_wp2_with fail
      go_ret
      exact ⟨by rw [← he.out]; rfl, hG.out⟩
theorem midT_bs (i : Id) : (⟨#[60]⟩ : ByteArray) ++ bs (hexT i.toList) ++ ⟨#[64, 104, 97, 115, 104, 62]⟩ = bs (midT i) := by
  have e1 : (⟨#[60]⟩ : ByteArray) = bs [60] := rfl
  have e2 : (⟨#[64, 104, 97, 115, 104, 62]⟩ : ByteArray) = bs midTail := rfl
  rw [e1, e2, bs_app, bs_app]; rfl
set_option maxRecDepth 100000 in
set_option maxHeartbeats 4000000 in
theorem refMidC (i : Id) (w : World) : Calls Tryz.prog 36 #[.agg (bC i).toArray] w fun e w' => e = .returned (.string (bs (midT i))) ∧ Gr w w' := by
  have G0 := Lib.hid ((Gr.refl w).alloc (.cells (bC i).toArray 67))
  have hB := heap_alloc_new w (.cells (bC i).toArray 67)
  have r1 := hasRow_block hB 0 32 (by rw [bC_length]; decide)
  have q1 : rowAt (w.alloc (.cells (bC i).toArray 67)) ⟨w.heap.size, 0, none⟩ 32 = bC i := (rowAt_block hB 0 32 (Nat.le_of_eq (bC_length i).symm)).trans (rowOf_all (bC i) 32 (bC_length i))
  have HT := Lib.hid (midT_bs i)
  have HD := Lib.hid (refDigitsC i)
  have hz : (bs (hexT i.toList)).size = 64 := by
    show (hexT i.toList).toArray.size = 64
    rw [List.size_toArray, hexT_len]; simp
  generalize bs (midT i) = m at *
  generalize bs (hexT i.toList) = s at *
  clear hB
  go_enter Tryz.func36, Tryz.ntmps36
  go_wp2_with fail
  refine (HD.out _).mono ?_
  rintro e w1 ⟨rfl, hg1⟩
  go_wp2_with fail
  go_ret
  exact ⟨by rw [← HT.out]; rfl, G0.out.trans hg1⟩
end Go.Proofs.YtcdcmohccbhchaaGreatDoor

namespace Go.Proofs.YtcdcmohccbhchaaGreatDoor
open Go.RowKit

theorem cm_same_iff (a b : Cm) : a = b ↔ ((a.kind == b.kind) = true ∧ (a.target == b.target) = true ∧ (a.group.toList == b.group.toList) = true ∧ (a.version == b.version) = true ∧ (a.moderated == b.moderated) = true ∧ (a.text.toList == b.text.toList) = true ∧ (a.number == b.number) = true ∧ (a.height == b.height) = true ∧ (a.root == b.root) = true ∧ a.mods = b.mods) := by
  constructor
  · rintro rfl
    simp
  · rintro ⟨h1, h2, h3, h4, h5, h6, h7, h8, h9, h10⟩
    rw [str_beq] at h3 h6
    simp only [beq_iff_eq] at h1 h2 h4 h5 h7 h8 h9
    cases a; cases b
    simp only at h1 h2 h3 h4 h5 h6 h7 h8 h9 h10
    simp only [h1, h2, h3, h4, h5, h6, h7, h8, h9, h10]
set_option maxRecDepth 100000 in
set_option maxHeartbeats 4000000 in
theorem sameC (a b : Cm) (la lb : List Aut) (ea : a.mods = la) (eb : b.mods = lb) (va vb : Value) (w : World) (ha : AutsAt w va la) (hb : AutsAt w vb lb) (hl : la.length ≤ 1000000) :
    Calls Tryz.prog 21 #[.agg (cmC a va).toArray, .agg (cmC b vb).toArray] w fun e w' => e = .returned (.bool (decide (a = b))) ∧ Gr w w' := by
  have g0 := ((Gr.refl w).alloc (.cells (cmC a va).toArray 26)).alloc (.cells (cmC b vb).toArray 26)
  have HQ := Lib.hid (cm_same_iff a b)
  rw [ea, eb] at HQ
  have G0 := Lib.hid g0
  obtain ⟨aa, ca, rfl, hca, hja⟩ := ha
  obtain ⟨ab, cb, rfl, hcb, hjb⟩ := hb
  simp only [List.length_map] at hca hcb
  have e1 : (la.map bC).length = la.length := by simp
  have e2 : (lb.map bC).length = lb.length := by simp
  rw [e1, e2]
  have HA := Lib.hid hja; have HB := Lib.hid hjb
  have HBLK := Lib.hid (And.intro (heap_alloc2_old w (.cells (cmC a (.slice aa la.length ca)).toArray 26) (.cells (cmC b (.slice ab lb.length cb)).toArray 26)) (heap_alloc2_new w (.cells (cmC a (.slice aa la.length ca)).toArray 26) (.cells (cmC b (.slice ab lb.length cb)).toArray 26)))
  have G1 := Lib.hid (((Gr.refl w).alloc (.cells (cmC a (.slice aa la.length ca)).toArray 26)).alloc (.cells (cmC b (.slice ab lb.length cb)).toArray 26))
  clear g0 G0 hja hjb e1 e2 ea eb
  cases h1 : (a.kind == b.kind) with
  | false =>
    have n1 : (a.kind != b.kind) = true := by rw [bne, h1]; rfl
    have HN : Hid (decide (a = b) = false) := by show _ = _; rw [decide_eq_false_iff_not, HQ.out]; simp [h1]
    clear HQ HA HB HBLK
    go_enter Tryz.func21, Tryz.ntmps21
    go_wp2_with fail
    go_ret
    exact ⟨ret_bool HN.out.symm, G1.out⟩
  | true =>
    have n1 : (a.kind != b.kind) = false := by rw [bne, h1]; rfl
    cases h2 : (a.target == b.target) with
    | false =>
      have n2 : (a.target != b.target) = true := by rw [bne, h2]; rfl
      have HN : Hid (decide (a = b) = false) := by show _ = _; rw [decide_eq_false_iff_not, HQ.out]; simp [h2]
      clear HQ HA HB HBLK
      go_enter Tryz.func21, Tryz.ntmps21
      go_wp2_with fail
      go_ret
      exact ⟨ret_bool HN.out.symm, G1.out⟩
    | true =>
      have n2 : (a.target != b.target) = false := by rw [bne, h2]; rfl
      cases h3 : (a.group.toList == b.group.toList) with
      | false =>
        have n3 : (a.group.toList != b.group.toList) = true := by rw [bne, h3]; rfl
        have HN : Hid (decide (a = b) = false) := by show _ = _; rw [decide_eq_false_iff_not, HQ.out]; simp [h3]
        clear HQ HA HB HBLK
        go_enter Tryz.func21, Tryz.ntmps21
        go_wp2_with fail
        go_ret
        exact ⟨ret_bool HN.out.symm, G1.out⟩
      | true =>
        have n3 : (a.group.toList != b.group.toList) = false := by rw [bne, h3]; rfl
        cases h4 : (a.version == b.version) with
        | false =>
          have n4 : (a.version != b.version) = true := by rw [bne, h4]; rfl
          have HN : Hid (decide (a = b) = false) := by show _ = _; rw [decide_eq_false_iff_not, HQ.out]; simp [h4]
          clear HQ HA HB HBLK
          go_enter Tryz.func21, Tryz.ntmps21
          go_wp2_with fail
          go_ret
          exact ⟨ret_bool HN.out.symm, G1.out⟩
        | true =>
          have n4 : (a.version != b.version) = false := by rw [bne, h4]; rfl
          cases h5 : (a.moderated == b.moderated) with
          | false =>
            have n5 : (a.moderated != b.moderated) = true := by rw [bne, h5]; rfl
            have HN : Hid (decide (a = b) = false) := by show _ = _; rw [decide_eq_false_iff_not, HQ.out]; simp [h5]
            clear HQ HA HB HBLK
            go_enter Tryz.func21, Tryz.ntmps21
            go_wp2_with fail
            go_ret
            exact ⟨ret_bool HN.out.symm, G1.out⟩
          | true =>
            have n5 : (a.moderated != b.moderated) = false := by rw [bne, h5]; rfl
            cases h6 : (a.text.toList == b.text.toList) with
            | false =>
              have n6 : (a.text.toList != b.text.toList) = true := by rw [bne, h6]; rfl
              have HN : Hid (decide (a = b) = false) := by show _ = _; rw [decide_eq_false_iff_not, HQ.out]; simp [h6]
              clear HQ HA HB HBLK
              go_enter Tryz.func21, Tryz.ntmps21
              go_wp2_with fail
              go_ret
              exact ⟨ret_bool HN.out.symm, G1.out⟩
            | true =>
              have n6 : (a.text.toList != b.text.toList) = false := by rw [bne, h6]; rfl
              cases h7 : (a.number == b.number) with
              | false =>
                have n7 : (a.number != b.number) = true := by rw [bne, h7]; rfl
                have HN : Hid (decide (a = b) = false) := by show _ = _; rw [decide_eq_false_iff_not, HQ.out]; simp [h7]
                clear HQ HA HB HBLK
                go_enter Tryz.func21, Tryz.ntmps21
                go_wp2_with fail
                go_ret
                exact ⟨ret_bool HN.out.symm, G1.out⟩
              | true =>
                have n7 : (a.number != b.number) = false := by rw [bne, h7]; rfl
                cases h8 : (a.height == b.height) with
                | false =>
                  have n8 : (a.height != b.height) = true := by rw [bne, h8]; rfl
                  have HN : Hid (decide (a = b) = false) := by show _ = _; rw [decide_eq_false_iff_not, HQ.out]; simp [h8]
                  clear HQ HA HB HBLK
                  go_enter Tryz.func21, Tryz.ntmps21
                  go_wp2_with fail
                  go_ret
                  exact ⟨ret_bool HN.out.symm, G1.out⟩
                | true =>
                  have n8 : (a.height != b.height) = false := by rw [bne, h8]; rfl
                  cases h9 : (a.root == b.root) with
                  | false =>
                    have n9 : (a.root != b.root) = true := by rw [bne, h9]; rfl
                    have HN : Hid (decide (a = b) = false) := by show _ = _; rw [decide_eq_false_iff_not, HQ.out]; simp [h9]
                    clear HQ HA HB HBLK
                    go_enter Tryz.func21, Tryz.ntmps21
                    go_wp2_with fail
                    go_ret
                    exact ⟨ret_bool HN.out.symm, G1.out⟩
                  | true =>
                    have n9 : (a.root != b.root) = false := by rw [bne, h9]; rfl
                    cases h10 : ((la.length : Int) == (lb.length : Int)) with
                    | false =>
                      have n10 : ((la.length : Int) != (lb.length : Int)) = true := by rw [bne, h10]; rfl
                      have HN : Hid (decide (a = b) = false) := by show _ = _; rw [decide_eq_false_iff_not, HQ.out]; rintro ⟨-, -, -, -, -, -, -, -, -, h⟩; rw [h] at h10; simp at h10
                      clear HQ HA HB HBLK
                      go_enter Tryz.func21, Tryz.ntmps21
                      go_wp2_with fail
                      go_ret
                      exact ⟨ret_bool HN.out.symm, G1.out⟩
                    | true =>
                      have n10 : ((la.length : Int) != (lb.length : Int)) = false := by rw [bne, h10]; rfl
                      have hlen : la.length = lb.length := by have := beq_iff_eq.1 h10; omega
                      have HL := Lib.hid hlen
                      have HDE : Hid (la = lb → decide (a = b) = true) := fun h => by rw [decide_eq_true_eq, HQ.out]; exact ⟨h1, h2, h3, h4, h5, h6, h7, h8, h9, h⟩
                      have HDN : Hid (la ≠ lb → decide (a = b) = false) := fun h => by rw [decide_eq_false_iff_not, HQ.out]; rintro ⟨-, -, -, -, -, -, -, -, -, h'⟩; exact h h'
                      have HBL : Hid (∀ k, k < la.length → k < lb.length) := fun k hk => hlen ▸ hk
                      clear HQ hlen
                      go_enter Tryz.func21, Tryz.ntmps21
                      go_wp2_with fail
                      go_loopw [5, 76, 77, 78, 79, 80, 81, 82, 83, 84, 85, 86, 87, 88, 89, 90, 91, 92, 93] (fun i _ _ _ _ _ _ _ _ _ _ _ _ _ _ _ _ _ _ wr => ∃ k : Nat, k ≤ la.length ∧ i = .int .i64 k ∧ Hid (la.take k = lb.take k) ∧ Hid (Gr w wr) ∧ Hid (wr.heap[w.heap.size]? = some (.cells (cmC a (.slice aa la.length ca)).toArray 26 (0, 0)) ∧ wr.heap[w.heap.size + 1]? = some (.cells (cmC b (.slice ab lb.length cb)).toArray 26 (0, 0)))) (fun i _ _ _ _ _ _ _ _ _ _ _ _ _ _ _ _ _ _ _ => la.length - (intOf i).toNat)
                      case atStart => exact ⟨0, Nat.zero_le _, rfl, rfl, G1.out, HBLK.out⟩
                      case round =>
                        obtain ⟨k, hk, rfl, hh, hG, hB⟩ := hrel
                        have m1 := (cell_block hB.out.1 36).trans (cm_mods a _)
                        have m2 := (cell_block hB.out.2 36).trans (cm_mods b _)
                        clear HBLK G1
                        by_cases hlt : k < la.length
                        · have hltb := HBL.out k hlt
                          obtain ⟨b1, o1, rfl, z1, p1, p2⟩ := HA.out k (by simpa using hlt)
                          obtain ⟨b2, o2, rfl, z2, p3, p4⟩ := HB.out k (by simpa using hltb)
                          have u1 := (hG.out.hasRow z1).trans p1
                          have u2 := (hG.out.rowAt z1).trans p2
                          have u3 := (hG.out.hasRow z2).trans p3
                          have u4 := (hG.out.rowAt z2).trans p4
                          rw [List.getElem_map] at u2 u4
                          have hk1 : (k : Int) < (la.length : Int) := by omega
                          have hk3 : (k : Int) < (lb.length : Int) := by omega
                          have hk2 : (0 : Int) ≤ (k : Int) := by omega
                          have y1 := Nat.lt_of_lt_of_le z1 hG.out.size
                          have y2 := Nat.lt_of_lt_of_le z2 hG.out.size
                          have HS := Lib.hid (fun e => takeEq_succ hlt hltb hh.out e)
                          have HNE : Hid (la[k] ≠ lb[k] → la ≠ lb) := fun hne e => hne (by subst e; rfl)
                          clear p1 p2 p3 p4
                          generalize la[k] = x at *
                          generalize lb[k] = y at *
                          cases hx : (x == y) with
                          | true =>
                            have HX : Hid (x = y) := by show x = y; simpa using hx
                            go_wp2_with fail
                            go_quiet (fail)
                            go_wp2_with fail
                            go_roundw
                            case rel => exact ⟨k + 1, by omega, by go_num, HS.out HX.out, hG.out.drewN _, (hB.out.1 : _), (hB.out.2 : _)⟩
                            case measure => simp [intOf]; omega
                          | false =>
                            have HX : Hid (x ≠ y) := by show x ≠ y; simpa using hx
                            go_wp2_with fail
                            go_quiet (fail)
                            go_wp2_with fail
                            go_ret
                            exact ⟨ret_bool (HDN.out (HNE.out HX.out)).symm, hG.out.drewN _⟩
                        · have hk1 : ¬ (k : Int) < (la.length : Int) := by omega
                          have HE : Hid (la = lb) := by
                            have := hh.out
                            rw [List.take_of_length_le (by omega), List.take_of_length_le (by rw [← HL.out]; omega)] at this
                            exact this
                          go_wp2_with fail
                          go_ret
                          exact ⟨ret_bool (HDE.out HE.out).symm, hG.out⟩
end Go.Proofs.YtcdcmohccbhchaaGreatDoor

namespace Go.Proofs.YtcdcmohccbhchaaGreatDoor
open Go.RowKit

/-- The command with the fields of its kind alone. -/
def onlyM (c : Cm) : Cm :=
  if c.kind = 1 then { cm0 1 with target := c.target } else if c.kind = 2 then { cm0 2 with target := c.target, group := c.group }
  else if c.kind = 3 then { cm0 3 with group := c.group, version := c.version, moderated := c.moderated, mods := c.mods, text := c.text }
  else if c.kind = 4 then { cm0 4 with group := c.group, version := c.version } else { cm0 5 with number := c.number, height := c.height, root := c.root }
theorem only3 (t : Id) (g : ByteArray) (n : Int) (m : Bool) (l : List Aut) (tx : ByteArray) (nu ht : Int) (r : Aut) : onlyM ⟨3, t, g, n, m, l, tx, nu, ht, r⟩ = { cm0 3 with group := g, version := n, moderated := m, mods := l, text := tx } := rfl
def onlyV (c : Cm) (v : Value) : Value := if c.kind = 3 then v else nilV
theorem only_foreign {c : Cm} (h1 : 1 ≤ c.kind) (h5 : c.kind ≤ 5) : decide (c = onlyM c) = !foreign c := by
  obtain ⟨k, t, g, n, m, l, tx, nu, ht, r⟩ := c
  simp only at h1 h5
  have : k = 1 ∨ k = 2 ∨ k = 3 ∨ k = 4 ∨ k = 5 := by omega
  rcases this with rfl | rfl | rfl | rfl | rfl
  all_goals
    unfold foreign
    rw [Bool.not_not, decide_eq_decide]
    simp [onlyM, strip, cm0]
@[local go_sem ↓ high] theorem zeroRC (w : World) : Sem.run Tryz.prog (zeroValue 26) w = .ok (.agg (cmC (cm0 0) nilV).toArray) w := by kernel_rfl
theorem setCells_drew (b : Nat) : ∀ (l : List Value) (k : Nat) (w : World), w.drew.setCells b k l = (w.setCells b k l).drew
  | [], _, _ => rfl
  | v :: l, k, w => by
    show World.setCells (w.drew.setCell ⟨b, k, none⟩ v) b (k + 1) l = _
    rw [World.setCell_drew]
    exact setCells_drew b l (k + 1) (w.setCell ⟨b, k, none⟩ v)
@[local go_sem ↓ high] theorem setCells_drew' (b : Nat) (l : List Value) (k : Nat) (w : World) : w.drew.setCells b k l = (w.setCells b k l).drew := setCells_drew b l k w
@[local go_sem ↓ high] theorem st_height (w : World) (t : TypeId) (b : Nat) (c : Cm) (v : Value) (n : Int) (hb : b = w.heap.size) : (w.alloc (.cells (cmC c v).toArray t)).setCell ⟨b, 39, none⟩ (.int .i64 n) = w.alloc (.cells (cmC { c with height := n } v).toArray t) := st_one w t b c v 39 _ _ _ hb (by rw [cm_set _ _ _ _ (by decide)]; rfl)
theorem cm_pre2 (c : Cm) (v : Value) : cmC c v = ([.int .i64 c.kind] ++ (bC c.target ++ ([Value.string c.group, .int .i64 c.version, .bool c.moderated, v, .string c.text, .int .i64 c.number] ++ [Value.int .i64 c.height]))) ++ (bC c.root ++ []) := by simp [cmC, pubC]
@[local go_sem ↓ high] theorem st_root (w : World) (t : TypeId) (b : Nat) (c : Cm) (v : Value) (r : Aut) (hb : b = w.heap.size) : (w.alloc (.cells (cmC c v).toArray t)).setCells b 40 (bC r) = w.alloc (.cells (cmC { c with root := r } v).toArray t) := by
  have e := setCells_mid w t b hb [] (bC r) ([.int .i64 c.kind] ++ (bC c.target ++ ([Value.string c.group, .int .i64 c.version, .bool c.moderated, v, .string c.text, .int .i64 c.number] ++ [Value.int .i64 c.height]))) (bC c.root) (by rw [bC_length, bC_length])
  have e40 : (([Value.int .i64 c.kind] ++ (bC c.target ++ ([Value.string c.group, .int .i64 c.version, .bool c.moderated, v, .string c.text, .int .i64 c.number] ++ [Value.int .i64 c.height])) : List Value)).length = 40 := by simp [bC_length]
  rw [e40] at e
  rw [cm_pre2 c v, cm_pre2 { c with root := r } v]; exact e
theorem drew_at {x : World} {b : Nat} {o : Obj} (h : x.heap[b]? = some o) : x.drew.heap[b]? = some o := h
theorem mid_block (w : World) (A B C : Obj) : (((w.alloc A).alloc B).alloc C).heap[w.heap.size + 1]? = some B :=
  (((Gr.refl ((w.alloc A).alloc B)).alloc C).block (by simp)).trans (heap_alloc2_new w A B)
set_option maxRecDepth 100000 in
set_option maxHeartbeats 4000000 in
theorem onlyC (c : Cm) (v : Value) (w : World) (hv : AutsAt w v c.mods) (h1 : 1 ≤ c.kind) (h5 : c.kind ≤ 5) :
    Calls Tryz.prog 46 #[.agg (cmC c v).toArray] w fun e w' => ∃ v', e = .returned (.agg (cmC (onlyM c) v').toArray) ∧ AutsAt w' v' (onlyM c).mods ∧ Gr w w' := by
  obtain ⟨a, cap, rfl, hc, hj⟩ := hv
  have HV : Hid (AutsAt w (.slice a c.mods.length cap) c.mods) := ⟨a, cap, by rw [List.length_map], hc, hj⟩
  have e1 : (c.mods.map bC).length = c.mods.length := by simp
  rw [e1]
  clear hc hj e1
  obtain ⟨k, t, g, n, m, l, tx, nu, ht, r⟩ := c
  simp only at h1 h5 HV ⊢
  have : k = 1 ∨ k = 2 ∨ k = 3 ∨ k = 4 ∨ k = 5 := by omega
  rcases this with rfl | rfl | rfl | rfl | rfl
  all_goals
    go_enter Tryz.func46, Tryz.ntmps46
    go_wp2_with fail
    try
      apply wp_to
      case h =>
        go_region_law (fail)
        all_goals exact ⟨rfl, rfl⟩
      go_wp2_with fail
    have hg : ∀ A B C : Obj, ∀ l : List Value, Gr w ((((w.alloc A).alloc B).alloc C).setCells (w.heap.size + 1) 0 l) := fun A B C l =>
      Gr.of_grownBy (grown_sets (by omega) l 0 _ ((((Gr.refl w).alloc A).alloc B).alloc C).grownBy)
  · refine bodyPost_ret (results_cell_row rfl _ _ (w.heap.size + 1) _ _ _ _ rfl (sets_whole (z := cmC (cm0 0) nilV) (mid_block w _ _ _) ((cmC_length _ _).trans (cmC_length _ _).symm)) Tryz.underlying26 rfl (by rw [List.size_toArray, cmC_length]; kernel_rfl)) rfl ?_
    exact ⟨nilV, rfl, nil_auts _, hg _ _ _ _⟩
  · refine bodyPost_ret (results_cell_row rfl _ _ (w.heap.size + 1) _ _ _ _ rfl (sets_whole (z := cmC (cm0 0) nilV) (mid_block w _ _ _) ((cmC_length _ _).trans (cmC_length _ _).symm)) Tryz.underlying26 rfl (by rw [List.size_toArray, cmC_length]; kernel_rfl)) rfl ?_
    exact ⟨nilV, rfl, nil_auts _, hg _ _ _ _⟩
  · refine bodyPost_ret (results_cell_row rfl _ _ (w.heap.size + 1) _ _ _ _ rfl (drew_at (sets_whole (z := cmC (cm0 0) nilV) (mid_block w _ _ _) ((cmC_length _ _).trans (cmC_length _ _).symm))) Tryz.underlying26 rfl (by rw [List.size_toArray, cmC_length]; kernel_rfl)) rfl ?_
    exact ⟨.slice a l.length cap, by rw [only3]; rfl, HV.out.gr ((hg _ _ _ _).drewN 1), (hg _ _ _ _).drewN 1⟩
  · refine bodyPost_ret (results_cell_row rfl _ _ (w.heap.size + 1) _ _ _ _ rfl (sets_whole (z := cmC (cm0 0) nilV) (mid_block w _ _ _) ((cmC_length _ _).trans (cmC_length _ _).symm)) Tryz.underlying26 rfl (by rw [List.size_toArray, cmC_length]; kernel_rfl)) rfl ?_
    exact ⟨nilV, rfl, nil_auts _, hg _ _ _ _⟩
  · refine bodyPost_ret (results_cell_row rfl _ _ (w.heap.size + 1) _ _ _ _ rfl (drew_at (sets_whole (z := cmC (cm0 0) nilV) (mid_block w _ _ _) ((cmC_length _ _).trans (cmC_length _ _).symm))) Tryz.underlying26 rfl (by rw [List.size_toArray, cmC_length]; kernel_rfl)) rfl ?_
    exact ⟨nilV, rfl, nil_auts _, (hg _ _ _ _).drewN 1⟩
end Go.Proofs.YtcdcmohccbhchaaGreatDoor

namespace Go.Proofs.YtcdcmohccbhchaaGreatDoor
open Go.RowKit

section
variable {t : Id} {g : ByteArray} {n : Int} {m : Bool} {l : List Aut} {tx : ByteArray} {nu ht : Int} {r : Aut}
theorem foreign_ver1 (h : foreign ⟨1, t, g, n, m, l, tx, nu, ht, r⟩ = false) : n = 0 := by unfold foreign at h; simp [strip, cm0] at h; exact h.2.1
theorem foreign_ver2 (h : foreign ⟨2, t, g, n, m, l, tx, nu, ht, r⟩ = false) : n = 0 := by unfold foreign at h; simp [strip, cm0] at h; exact h.1
theorem foreign_ver5 (h : foreign ⟨5, t, g, n, m, l, tx, nu, ht, r⟩ = false) : n = 0 := by unfold foreign at h; simp [strip, cm0] at h; exact h.2.2.1
end
theorem onlyM_len (c : Cm) : (onlyM c).mods.length ≤ c.mods.length := by
  unfold onlyM
  repeat' split
  all_goals first | exact Nat.le_refl _ | exact Nat.zero_le _
set_option maxRecDepth 100000 in
set_option maxHeartbeats 8000000 in
theorem refCheckC (c : Cm) (v : Value) (w : World) (hv : AutsAt w v c.mods) (hl : c.mods.length ≤ 1000000) :
    Calls Tryz.prog 18 #[.agg (cmC c v).toArray] w fun e w' => e = .returned (.int .i64 (cmErr c)) ∧ Gr w w' := by
  have gA := (Gr.refl w).alloc (.cells (cmC c v).toArray 26)
  by_cases hk : 1 ≤ c.kind ∧ c.kind ≤ 5
  · have HO : Hid (∀ U, Gr w U → Calls Tryz.prog 46 #[.agg (cmC c v).toArray] U fun e w' => ∃ x n k, e = .returned (.agg (cmC (onlyM c) (.slice x n k)).toArray) ∧ AutsAt w' (.slice x n k) (onlyM c).mods ∧ Gr U w') := fun U hU => (onlyC c v U (hv.gr hU) hk.1 hk.2).mono fun e w' ⟨v', he, hv', hg⟩ => by
      obtain ⟨x, k, hx, hr⟩ := hv'
      subst hx
      exact ⟨x, _, k, he, ⟨x, k, rfl, hr⟩, hg⟩
    have HS : Hid (∀ U v', Gr w U → AutsAt U v' (onlyM c).mods → Calls Tryz.prog 21 #[.agg (cmC c v).toArray, .agg (cmC (onlyM c) v').toArray] U fun e w' => e = .returned (.bool (!foreign c)) ∧ Gr U w') := fun U v' hU hv' => by
      have := sameC c (onlyM c) c.mods (onlyM c).mods rfl rfl v v' U (hv.gr hU) hv' hl
      rwa [only_foreign hk.1 hk.2] at this
    have HM : Hid (∀ U, Gr w U → Calls Tryz.prog 48 #[v] U fun e w' => e = .returned (.int .i64 (modsErr c.mods)) ∧ Gr U w') := fun U hU => refModsC c.mods v U (hv.gr hU) hl
    have HT : Hid (∀ U, Calls Tryz.prog 49 #[.string c.text] U fun e w' => e = .returned (.int .i64 (textErr (bl c.text))) ∧ Gr U w') := fun U => refTextC c.text U
    have HN : Hid (∀ U, Calls Tryz.prog 47 #[.string c.group] U fun e w' => e = .returned (.int .i64 (nameErr c.group)) ∧ Gr U w') := fun U => nameRC c.group U
    have hB := heap_alloc_new w (.cells (cmC c v).toArray 26)
    have KS : Hid (∀ W, Gr (w.alloc (.cells (cmC c v).toArray 26)) W → hasRow W ⟨w.heap.size, 0, none⟩ 56 = true ∧ rowAt W ⟨w.heap.size, 0, none⟩ 56 = cmC c v) := fun W h => by
      have := cm_facts ((h.block (by simp)).trans hB)
      exact ⟨this.2.2.2.2.2.2.2.2.2.2.2.2.2.2.1, this.2.2.2.2.2.2.2.2.2.2.2.2.2.2.2.1⟩
    have G0 := Lib.hid gA
    have g0 := (Gr.refl (w.alloc (.cells (cmC c v).toArray 26))).drew
    obtain ⟨r1, q1⟩ := KS.out _ (Gr.refl _)
    obtain ⟨a, cap, hva, -⟩ := hv
    rw [List.length_map] at hva
    subst hva
    clear hB gA
    obtain ⟨k, t, g, n, m, l, tx, nu, ht, r⟩ := c
    simp only at hk hl HM HT HN
    have hk5 : k = 1 ∨ k = 2 ∨ k = 3 ∨ k = 4 ∨ k = 5 := by omega
    clear hl
    cases hf : foreign ⟨k, t, g, n, m, l, tx, nu, ht, r⟩ with
    | true =>
      have HR := Lib.hid (errF (c := ⟨k, t, g, n, m, l, tx, nu, ht, r⟩) hk.1 hk.2 hf)
      rw [hf] at HS
      clear hk hf HM HT HN
      rcases hk5 with rfl | rfl | rfl | rfl | rfl
      · go_enter Tryz.func18, Tryz.ntmps18
        go_wp2_with fail
        go_region_held_law (fun u => hasRow u ⟨w.heap.size, 0, none⟩ 56 = true ∧ rowAt u ⟨w.heap.size, 0, none⟩ 56 = cmC ⟨1, t, g, n, m, l, tx, nu, ht, r⟩ (.slice a l.length cap))
          (first | with_reducible exact KS.out _ g2 | with_reducible exact KS.out _ g1 | with_reducible exact KS.out _ g0)
          (first
            | (go_at_call 46; with_reducible refine (HO.out _ (G0.out.trans g0)).mono ?_; rintro e w1 ⟨x1, n1, k1, rfl, hv1, hg1⟩; have g1 := g0.trans hg1)
            | (go_at_call 21; with_reducible refine (HS.out _ _ (G0.out.trans g1) hv1).mono ?_; rintro e w2 ⟨rfl, hg2⟩; have g2 := g1.trans hg2))
        all_goals
          go_wp2_with fail
          go_ret
          exact ⟨ret_int HR.out.symm, G0.out.trans g2⟩
      · go_enter Tryz.func18, Tryz.ntmps18
        go_wp2_with fail
        go_region_held_law (fun u => hasRow u ⟨w.heap.size, 0, none⟩ 56 = true ∧ rowAt u ⟨w.heap.size, 0, none⟩ 56 = cmC ⟨2, t, g, n, m, l, tx, nu, ht, r⟩ (.slice a l.length cap))
          (first | with_reducible exact KS.out _ g2 | with_reducible exact KS.out _ g1 | with_reducible exact KS.out _ g0)
          (first
            | (go_at_call 46; with_reducible refine (HO.out _ (G0.out.trans g0)).mono ?_; rintro e w1 ⟨x1, n1, k1, rfl, hv1, hg1⟩; have g1 := g0.trans hg1)
            | (go_at_call 21; with_reducible refine (HS.out _ _ (G0.out.trans g1) hv1).mono ?_; rintro e w2 ⟨rfl, hg2⟩; have g2 := g1.trans hg2))
        all_goals
          go_wp2_with fail
          go_ret
          exact ⟨ret_int HR.out.symm, G0.out.trans g2⟩
      · go_enter Tryz.func18, Tryz.ntmps18
        go_wp2_with fail
        go_region_held_law (fun u => hasRow u ⟨w.heap.size, 0, none⟩ 56 = true ∧ rowAt u ⟨w.heap.size, 0, none⟩ 56 = cmC ⟨3, t, g, n, m, l, tx, nu, ht, r⟩ (.slice a l.length cap))
          (first | with_reducible exact KS.out _ g2 | with_reducible exact KS.out _ g1 | with_reducible exact KS.out _ g0)
          (first
            | (go_at_call 46; with_reducible refine (HO.out _ (G0.out.trans g0)).mono ?_; rintro e w1 ⟨x1, n1, k1, rfl, hv1, hg1⟩; have g1 := g0.trans hg1)
            | (go_at_call 21; with_reducible refine (HS.out _ _ (G0.out.trans g1) hv1).mono ?_; rintro e w2 ⟨rfl, hg2⟩; have g2 := g1.trans hg2))
        all_goals
          go_wp2_with fail
          go_ret
          exact ⟨ret_int HR.out.symm, G0.out.trans g2⟩
      · go_enter Tryz.func18, Tryz.ntmps18
        go_wp2_with fail
        go_region_held_law (fun u => hasRow u ⟨w.heap.size, 0, none⟩ 56 = true ∧ rowAt u ⟨w.heap.size, 0, none⟩ 56 = cmC ⟨4, t, g, n, m, l, tx, nu, ht, r⟩ (.slice a l.length cap))
          (first | with_reducible exact KS.out _ g2 | with_reducible exact KS.out _ g1 | with_reducible exact KS.out _ g0)
          (first
            | (go_at_call 46; with_reducible refine (HO.out _ (G0.out.trans g0)).mono ?_; rintro e w1 ⟨x1, n1, k1, rfl, hv1, hg1⟩; have g1 := g0.trans hg1)
            | (go_at_call 21; with_reducible refine (HS.out _ _ (G0.out.trans g1) hv1).mono ?_; rintro e w2 ⟨rfl, hg2⟩; have g2 := g1.trans hg2))
        all_goals
          go_wp2_with fail
          go_ret
          exact ⟨ret_int HR.out.symm, G0.out.trans g2⟩
      · go_enter Tryz.func18, Tryz.ntmps18
        go_wp2_with fail
        go_region_held_law (fun u => hasRow u ⟨w.heap.size, 0, none⟩ 56 = true ∧ rowAt u ⟨w.heap.size, 0, none⟩ 56 = cmC ⟨5, t, g, n, m, l, tx, nu, ht, r⟩ (.slice a l.length cap))
          (first | with_reducible exact KS.out _ g2 | with_reducible exact KS.out _ g1 | with_reducible exact KS.out _ g0)
          (first
            | (go_at_call 46; with_reducible refine (HO.out _ (G0.out.trans g0)).mono ?_; rintro e w1 ⟨x1, n1, k1, rfl, hv1, hg1⟩; have g1 := g0.trans hg1)
            | (go_at_call 21; with_reducible refine (HS.out _ _ (G0.out.trans g1) hv1).mono ?_; rintro e w2 ⟨rfl, hg2⟩; have g2 := g1.trans hg2))
        all_goals
          go_wp2_with fail
          go_ret
          exact ⟨ret_int HR.out.symm, G0.out.trans g2⟩
    | false =>
      rw [hf] at HS
      clear hk
      rcases hk5 with rfl | rfl | rfl | rfl | rfl
      · have HR := Lib.hid (err1 t g n m l tx nu ht r hf)
        obtain rfl : n = 0 := foreign_ver1 hf
        clear hf
        go_enter Tryz.func18, Tryz.ntmps18
        go_wp2_with fail
        go_region_held_law (fun u => hasRow u ⟨w.heap.size, 0, none⟩ 56 = true ∧ rowAt u ⟨w.heap.size, 0, none⟩ 56 = cmC ⟨1, t, g, 0, m, l, tx, nu, ht, r⟩ (.slice a l.length cap))
          (first | with_reducible exact KS.out _ g2 | with_reducible exact KS.out _ g1 | with_reducible exact KS.out _ g0)
          (first
            | (go_at_call 46; with_reducible refine (HO.out _ (G0.out.trans g0)).mono ?_; rintro e w1 ⟨x1, n1, k1, rfl, hv1, hg1⟩; have g1 := g0.trans hg1)
            | (go_at_call 21; with_reducible refine (HS.out _ _ (G0.out.trans g1) hv1).mono ?_; rintro e w2 ⟨rfl, hg2⟩; have g2 := g1.trans hg2))
        all_goals
          clear HO HS KS r1 q1 hv1
          obtain ⟨p, rfl⟩ := g2.gw
          clear g2 g1 g0 hg1 hg2
          go_wp2_with (fail)
          all_goals
            go_ret
            refine ⟨ret_int ?_, G0.out.trans (gr_gw _ _)⟩
            rw [HR.out]
            clear HR G0 HM HT HN
            first | (simp_all; done) | (simp_all; omega) | (repeat' split) <;> first | rfl | (exfalso; simp_all; done) | (exfalso; simp_all; omega)
      · have HR := Lib.hid (err2 t g n m l tx nu ht r hf)
        obtain rfl : n = 0 := foreign_ver2 hf
        clear hf
        generalize nameErr g = ne at *
        go_enter Tryz.func18, Tryz.ntmps18
        go_wp2_with fail
        go_region_held_law (fun u => hasRow u ⟨w.heap.size, 0, none⟩ 56 = true ∧ rowAt u ⟨w.heap.size, 0, none⟩ 56 = cmC ⟨2, t, g, 0, m, l, tx, nu, ht, r⟩ (.slice a l.length cap))
          (first | with_reducible exact KS.out _ g2 | with_reducible exact KS.out _ g1 | with_reducible exact KS.out _ g0)
          (first
            | (go_at_call 46; with_reducible refine (HO.out _ (G0.out.trans g0)).mono ?_; rintro e w1 ⟨x1, n1, k1, rfl, hv1, hg1⟩; have g1 := g0.trans hg1)
            | (go_at_call 21; with_reducible refine (HS.out _ _ (G0.out.trans g1) hv1).mono ?_; rintro e w2 ⟨rfl, hg2⟩; have g2 := g1.trans hg2))
        all_goals
          clear HO HS KS r1 q1 hv1
          obtain ⟨p, rfl⟩ := g2.gw
          clear g2 g1 g0 hg1 hg2
          go_wp2_with (first | (go_at_call 47; refine (HN.out _).mono ?_; rintro e w3 ⟨rfl, hg3⟩; obtain ⟨q3, rfl⟩ := ((gr_gw _ _).trans hg3).gw))
          all_goals
            go_ret
            refine ⟨ret_int ?_, G0.out.trans (gr_gw _ _)⟩
            rw [HR.out]
            clear HR G0 HM HT HN
            first | (simp_all; done) | (simp_all; omega) | (repeat' split) <;> first | rfl | (exfalso; simp_all; done) | (exfalso; simp_all; omega)
      · have HR := Lib.hid (err3 t g n m l tx nu ht r hf)
        clear hf
        have HME : Hid (modeErr ⟨3, t, g, n, m, l, tx, nu, ht, r⟩ = if m = false then (if 0 < l.length then 3 else 0) else modsErr l) := rfl
        rw [HME.out] at HR
        generalize modsErr l = me at *
        generalize textErr (bl tx) = te at *
        generalize nameErr g = ne at *
        cases m with
        | false =>
          go_enter Tryz.func18, Tryz.ntmps18
          go_wp2_with fail
          go_region_held_law (fun u => hasRow u ⟨w.heap.size, 0, none⟩ 56 = true ∧ rowAt u ⟨w.heap.size, 0, none⟩ 56 = cmC ⟨3, t, g, n, false, l, tx, nu, ht, r⟩ (.slice a l.length cap))
            (first | with_reducible exact KS.out _ g2 | with_reducible exact KS.out _ g1 | with_reducible exact KS.out _ g0)
            (first
              | (go_at_call 46; with_reducible refine (HO.out _ (G0.out.trans g0)).mono ?_; rintro e w1 ⟨x1, n1, k1, rfl, hv1, hg1⟩; have g1 := g0.trans hg1)
              | (go_at_call 21; with_reducible refine (HS.out _ _ (G0.out.trans g1) hv1).mono ?_; rintro e w2 ⟨rfl, hg2⟩; have g2 := g1.trans hg2))
          all_goals
            clear HO HS KS r1 q1 hv1
            obtain ⟨p, rfl⟩ := g2.gw
            clear g2 g1 g0 hg1 hg2
            go_wp2_with (first | (go_at_call 47; refine (HN.out _).mono ?_; rintro e w3 ⟨rfl, hg3⟩; obtain ⟨q3, rfl⟩ := ((gr_gw _ _).trans hg3).gw) | (go_at_call 48; refine (HM.out _ (G0.out.trans (gr_gw _ _))).mono ?_; rintro e w4 ⟨rfl, hg4⟩; obtain ⟨q4, rfl⟩ := ((gr_gw _ _).trans hg4).gw) | (go_at_call 49; refine (HT.out _).mono ?_; rintro e w5 ⟨rfl, hg5⟩; obtain ⟨q5, rfl⟩ := ((gr_gw _ _).trans hg5).gw))
            all_goals
              go_ret
              refine ⟨ret_int ?_, G0.out.trans (gr_gw _ _)⟩
              rw [HR.out]
              clear HR G0 HM HT HN
              first | (simp_all; done) | (simp_all; omega) | (repeat' split) <;> first | rfl | (exfalso; simp_all; done) | (exfalso; simp_all; omega)
        | true =>
          go_enter Tryz.func18, Tryz.ntmps18
          go_wp2_with fail
          go_region_held_law (fun u => hasRow u ⟨w.heap.size, 0, none⟩ 56 = true ∧ rowAt u ⟨w.heap.size, 0, none⟩ 56 = cmC ⟨3, t, g, n, true, l, tx, nu, ht, r⟩ (.slice a l.length cap))
            (first | with_reducible exact KS.out _ g2 | with_reducible exact KS.out _ g1 | with_reducible exact KS.out _ g0)
            (first
              | (go_at_call 46; with_reducible refine (HO.out _ (G0.out.trans g0)).mono ?_; rintro e w1 ⟨x1, n1, k1, rfl, hv1, hg1⟩; have g1 := g0.trans hg1)
              | (go_at_call 21; with_reducible refine (HS.out _ _ (G0.out.trans g1) hv1).mono ?_; rintro e w2 ⟨rfl, hg2⟩; have g2 := g1.trans hg2))
          all_goals
            clear HO HS KS r1 q1 hv1
            obtain ⟨p, rfl⟩ := g2.gw
            clear g2 g1 g0 hg1 hg2
            go_wp2_with (first | (go_at_call 47; refine (HN.out _).mono ?_; rintro e w3 ⟨rfl, hg3⟩; obtain ⟨q3, rfl⟩ := ((gr_gw _ _).trans hg3).gw) | (go_at_call 48; refine (HM.out _ (G0.out.trans (gr_gw _ _))).mono ?_; rintro e w4 ⟨rfl, hg4⟩; obtain ⟨q4, rfl⟩ := ((gr_gw _ _).trans hg4).gw) | (go_at_call 49; refine (HT.out _).mono ?_; rintro e w5 ⟨rfl, hg5⟩; obtain ⟨q5, rfl⟩ := ((gr_gw _ _).trans hg5).gw))
            all_goals
              go_ret
              refine ⟨ret_int ?_, G0.out.trans (gr_gw _ _)⟩
              rw [HR.out]
              clear HR G0 HM HT HN
              first | (simp_all; done) | (simp_all; omega) | (repeat' split) <;> first | rfl | (exfalso; simp_all; done) | (exfalso; simp_all; omega)
      · have HR := Lib.hid (err4 t g n m l tx nu ht r hf)
        clear hf
        generalize nameErr g = ne at *
        go_enter Tryz.func18, Tryz.ntmps18
        go_wp2_with fail
        go_region_held_law (fun u => hasRow u ⟨w.heap.size, 0, none⟩ 56 = true ∧ rowAt u ⟨w.heap.size, 0, none⟩ 56 = cmC ⟨4, t, g, n, m, l, tx, nu, ht, r⟩ (.slice a l.length cap))
          (first | with_reducible exact KS.out _ g2 | with_reducible exact KS.out _ g1 | with_reducible exact KS.out _ g0)
          (first
            | (go_at_call 46; with_reducible refine (HO.out _ (G0.out.trans g0)).mono ?_; rintro e w1 ⟨x1, n1, k1, rfl, hv1, hg1⟩; have g1 := g0.trans hg1)
            | (go_at_call 21; with_reducible refine (HS.out _ _ (G0.out.trans g1) hv1).mono ?_; rintro e w2 ⟨rfl, hg2⟩; have g2 := g1.trans hg2))
        all_goals
          clear HO HS KS r1 q1 hv1
          obtain ⟨p, rfl⟩ := g2.gw
          clear g2 g1 g0 hg1 hg2
          go_wp2_with (first | (go_at_call 47; refine (HN.out _).mono ?_; rintro e w3 ⟨rfl, hg3⟩; obtain ⟨q3, rfl⟩ := ((gr_gw _ _).trans hg3).gw))
          all_goals
            go_ret
            refine ⟨ret_int ?_, G0.out.trans (gr_gw _ _)⟩
            rw [HR.out]
            clear HR G0 HM HT HN
            first | (simp_all; done) | (simp_all; omega) | (repeat' split) <;> first | rfl | (exfalso; simp_all; done) | (exfalso; simp_all; omega)
      · have HR := Lib.hid (err5 t g n m l tx nu ht r hf)
        obtain rfl : n = 0 := foreign_ver5 hf
        clear hf
        have HHE : Hid (heightErr ht = if ht < 1 ∨ 8 < ht then 2 else 0) := rfl
        rw [HHE.out] at HR
        go_enter Tryz.func18, Tryz.ntmps18
        go_wp2_with fail
        go_region_held_law (fun u => hasRow u ⟨w.heap.size, 0, none⟩ 56 = true ∧ rowAt u ⟨w.heap.size, 0, none⟩ 56 = cmC ⟨5, t, g, 0, m, l, tx, nu, ht, r⟩ (.slice a l.length cap))
          (first | with_reducible exact KS.out _ g2 | with_reducible exact KS.out _ g1 | with_reducible exact KS.out _ g0)
          (first
            | (go_at_call 46; with_reducible refine (HO.out _ (G0.out.trans g0)).mono ?_; rintro e w1 ⟨x1, n1, k1, rfl, hv1, hg1⟩; have g1 := g0.trans hg1)
            | (go_at_call 21; with_reducible refine (HS.out _ _ (G0.out.trans g1) hv1).mono ?_; rintro e w2 ⟨rfl, hg2⟩; have g2 := g1.trans hg2))
        all_goals
          clear HO HS KS r1 q1 hv1
          obtain ⟨p, rfl⟩ := g2.gw
          clear g2 g1 g0 hg1 hg2
          go_wp2_with (fail)
          all_goals
            go_ret
            refine ⟨ret_int ?_, G0.out.trans (gr_gw _ _)⟩
            rw [HR.out]
            clear HR G0 HM HT HN
            first | (simp_all; done) | (simp_all; omega) | (repeat' split) <;> first | rfl | (exfalso; simp_all; done) | (exfalso; simp_all; omega)
  · have HR := Lib.hid (errK hk).1
    have G0 := Lib.hid gA
    obtain ⟨k, t, g, n, m, l, tx, nu, ht, r⟩ := c
    simp only at hk
    clear gA hv hl
    by_cases h1 : k < 1
    · go_enter Tryz.func18, Tryz.ntmps18
      go_wp2_with fail
      go_ret
      exact ⟨ret_int HR.out.symm, G0.out⟩
    · have h5 : 5 < k := by omega
      clear hk
      go_enter Tryz.func18, Tryz.ntmps18
      go_wp2_with fail
      go_ret
      exact ⟨ret_int HR.out.symm, G0.out⟩
end Go.Proofs.YtcdcmohccbhchaaGreatDoor

namespace Go.Proofs.YtcdcmohccbhchaaGreatDoor
open Go.RowKit

theorem a64_fin : ∀ q : Fin 64, (⟨#[65, 66, 67, 68, 69, 70, 71, 72, 73, 74, 75, 76, 77, 78, 79, 80, 81, 82, 83, 84, 85, 86, 87, 88, 89, 90, 97, 98, 99, 100, 101, 102, 103, 104, 105, 106, 107, 108, 109, 110, 111, 112, 113, 114, 115, 116, 117, 118, 119, 120, 121, 122, 48, 49, 50, 51, 52, 53, 54, 55, 56, 57, 43, 47]⟩ : ByteArray).extract q.val (q.val + 1) = bs [b64C q.val] := by decide +kernel
theorem a64_ext (q : Nat) (h : q < 64) : (⟨#[65, 66, 67, 68, 69, 70, 71, 72, 73, 74, 75, 76, 77, 78, 79, 80, 81, 82, 83, 84, 85, 86, 87, 88, 89, 90, 97, 98, 99, 100, 101, 102, 103, 104, 105, 106, 107, 108, 109, 110, 111, 112, 113, 114, 115, 116, 117, 118, 119, 120, 121, 122, 48, 49, 50, 51, 52, 53, 54, 55, 56, 57, 43, 47]⟩ : ByteArray).extract q (q + 1) = bs [b64C q] := a64_fin ⟨q, h⟩
theorem grp_bit {B : List Bool} {vs : List Nat} {rm : List Bool} (h : grp 6 B = (vs, rm)) (b : Bool) :
    rm.length < 6 ∧ (rm.length = 5 → grp 6 (B ++ [b]) = (vs ++ [2 * valB rm + b.toNat], [])) ∧ (rm.length ≠ 5 → grp 6 (B ++ [b]) = (vs, rm ++ [b])) := by
  have hl := grp_left (k := 6) (by decide) B.length B (Nat.le_refl _)
  have ha := grp_app (k := 6) (by decide) B.length B [b] (Nat.le_refl _)
  rw [h] at hl ha
  refine ⟨hl, fun e => ?_, fun e => ?_⟩
  · rw [ha]
    have := grp_cons (k := 6) (by decide) (a := rm ++ [b]) (l := []) (by simp [e])
    rw [List.append_nil] at this
    rw [this, grp_short (by simp), valB_snoc]
  · rw [ha, grp_short (k := 6) (l := rm ++ [b]) (by simp only [List.length_append, List.length_cons, List.length_nil]; simp only at hl; omega)]
    simp
/-- The bits of the bytes ahead of k, and those of byte k but the last m. -/
def upTo (l : List UInt8) (k m : Nat) : List Bool := bits8 (l.take k) ++ bitsK (8 - m) ((l.getD k 0).toNat / 2 ^ m)
theorem upTo_start (l : List UInt8) (k : Nat) : upTo l k 8 = bits8 (l.take k) := by unfold upTo; simp [bitsK]
theorem upTo_step (l : List UInt8) (k m : Nat) (h : m < 8) : upTo l k m = upTo l k (m + 1) ++ [(l.getD k 0).toNat / 2 ^ m % 2 == 1] := by
  unfold upTo
  rw [show 8 - m = (8 - (m + 1)) + 1 by omega, bitsK, List.append_assoc, Nat.div_div_eq_div_mul, ← Nat.pow_succ]
theorem upTo_end (l : List UInt8) (k : Nat) (h : k < l.length) : upTo l k 0 = bits8 (l.take (k + 1)) := by
  rw [bits8_succ l k h]; unfold upTo
  rw [List.getD_eq_getElem?_getD, List.getElem?_eq_getElem h]; simp
theorem upTo_len (l : List UInt8) (k m : Nat) (h : k ≤ l.length) (hm : m ≤ 8) : (upTo l k m).length ≤ 8 * k + 8 := by
  unfold upTo; rw [List.length_append, bits8_len, bitsK_len, List.length_take]; omega
theorem grp_sizes {B : List Bool} {vs : List Nat} {rm : List Bool} (h : grp 6 B = (vs, rm)) : 6 * vs.length + rm.length = B.length ∧ rm.length < 6 ∧ valB rm < 2 ^ rm.length ∧ valB rm < 32 := by
  have h1 := grp_len (k := 6) (by decide) B
  have hl := grp_left (k := 6) (by decide) B.length B (Nat.le_refl _)
  rw [h] at h1 hl
  have hv := valB_lt rm
  simp only at h1 hl
  exact ⟨h1, hl, hv, Nat.lt_of_lt_of_le hv (Nat.le_trans (Nat.pow_le_pow_right (by decide) (show rm.length ≤ 5 by omega)) (by decide))⟩
theorem and1 (q : Nat) (h : q < 256) : bits .and .u8 (q : Int) 1 = ((q % 2 : Nat) : Int) := by
  have : ∀ q : Fin 256, bits .and .u8 (q.val : Int) 1 = ((q.val % 2 : Nat) : Int) := by decide +kernel
  exact this ⟨q, h⟩
theorem bs_snoc (t : Str) (c : UInt8) : bs t ++ bs [c] = bs (t ++ [c]) := bs_app _ _
theorem bs_size' (t : Str) : (bs t).size = t.length := by show t.toArray.size = _; rw [List.size_toArray]
def strLen : Value → Nat
  | .string s => s.size
  | _ => 0
set_option maxRecDepth 100000 in
set_option maxHeartbeats 4000000 in
theorem refEncC (g o c : Nat) (l : List UInt8) (w : World) (hl : l.length ≤ 1000) (h : ByAt w g o l) : Calls Tryz.prog 38 #[.slice (some ⟨g, o, none⟩) l.length c] w fun e w' => e = .returned (.string (bs (encL l))) ∧ w = w' := by
  have HU : Hid (∀ k m, k ≤ l.length → m ≤ 8 → (upTo l k m).length ≤ 8 * k + 8) := fun k m => upTo_len l k m
  have HST := Lib.hid (upTo_step l)
  have HS0 := Lib.hid (upTo_start l)
  have HSE := Lib.hid (upTo_end l)
  have HBY : Hid (∀ k (hk : k < l.length), w.cell? ⟨g, o + k, none⟩ = some (.int .u8 ((l.getD k 0).toNat : Int)) ∧ (l.getD k 0).toNat < 256) := fun k hk => ⟨by
    rw [List.getD_eq_getElem?_getD, List.getElem?_eq_getElem hk]; exact h.2 k _ (List.getElem?_eq_getElem hk), UInt8.toNat_lt _⟩
  have HT : Hid (bits8 (l.take l.length) = bits8 l) := by show _ = _; rw [List.take_length]
  have hg := h.1
  have HE : Hid (encL l = padT (encB (grp 6 (bits8 l)))) := rfl
  have H8 : Hid ((bits8 l).length = 8 * l.length) := bits8_len l
  generalize encL l = enc at *
  clear h
  obtain ⟨n, hn⟩ : ∃ n, l.length = n := ⟨_, rfl⟩
  rw [hn] at hl HU HSE HBY HT H8
  rw [hn]
  clear hn
  go_enter Tryz.func38, Tryz.ntmps38
  go_wp2_with fail
  go_loop [3, 4, 5, 6, 7, 8, 9, 10, 11, 12, 13, 14, 15, 16, 17, 18, 19, 20, 21, 22, 23, 24, 25, 26, 27, 28, 29, 30, 31, 32, 33, 34, 35, 36, 37, 38] (fun s v hv i _ _ _ _ _ _ _ _ _ _ _ _ _ _ _ _ _ _ _ _ _ _ _ _ _ _ _ _ _ _ _ _ => ∃ (k : Nat) (vs : List Nat) (rm : List Bool), k ≤ n ∧ i = .int .i64 k ∧ s = .string (bs (vs.map b64C)) ∧ v = .int .i64 ((valB rm : Nat) : Int) ∧ hv = .int .i64 ((rm.length : Nat) : Int) ∧ Hid (grp 6 (bits8 (l.take k)) = (vs, rm))) (fun _ _ _ i _ _ _ _ _ _ _ _ _ _ _ _ _ _ _ _ _ _ _ _ _ _ _ _ _ _ _ _ _ _ _ _ => n - (intOf i).toNat)
  case atStart => exact ⟨0, [], [], Nat.zero_le _, rfl, rfl, rfl, rfl, rfl⟩
  case round =>
    obtain ⟨k, vs, rm, hk, rfl, rfl, rfl, rfl, hgr⟩ := hrel
    by_cases hlt : k < n
    · have q1 : (k : Int) < (n : Int) := by omega
      have q2 : (0 : Int) ≤ (k : Int) := by omega
      obtain ⟨hcell, hx⟩ := HBY.out k hlt
      have HX : Hid (∀ m, m < 8 → upTo l k m = upTo l k (m + 1) ++ [(l.getD k 0).toNat / 2 ^ m % 2 == 1]) := fun m hm => HST.out k m hm
      have HLN : Hid (∀ m, m ≤ 8 → (upTo l k m).length ≤ 8 * k + 8) := fun m hm => HU.out k m hk hm
      have HEND := Lib.hid (HSE.out k hlt)
      rw [← HS0.out] at hgr
      generalize (l.getD k 0).toNat = x at *
      clear HU HST HSE HS0 HBY
      go_wp2_with fail
      go_loop [3, 4, 5, 7, 14, 15, 16, 17, 18, 19, 20, 21, 22, 23, 24, 25, 26, 27, 28, 29, 30, 31, 32, 33, 34, 35, 36, 37, 38] (fun s v hv i _ _ _ _ _ _ _ _ _ _ _ _ _ _ _ _ _ _ _ _ _ _ _ _ _ => ∃ (m : Nat) (z : Int) (vs : List Nat) (rm : List Bool), m ≤ 8 ∧ z = (m : Int) - 1 ∧ i = .int .i64 z ∧ s = .string (bs (vs.map b64C)) ∧ v = .int .i64 ((valB rm : Nat) : Int) ∧ hv = .int .i64 ((rm.length : Nat) : Int) ∧ Hid (grp 6 (upTo l k m) = (vs, rm))) (fun _ _ _ i _ _ _ _ _ _ _ _ _ _ _ _ _ _ _ _ _ _ _ _ _ _ _ _ _ => (intOf i + 1).toNat)
      case atStart => exact ⟨8, 7, vs, rm, Nat.le_refl _, rfl, rfl, rfl, rfl, rfl, hgr.out⟩
      case round =>
        clear hgr
        obtain ⟨m, z, ts, rs, hm, hz, rfl, rfl, rfl, rfl, hgr⟩ := hrel
        by_cases hm0 : m = 0
        · obtain rfl : z = -1 := by omega
          subst hm0
          rw [HEND.out] at hgr
          clear hz hm
          go_wp2_with fail
          go_round
          case rel => exact ⟨k + 1, ts, rs, by omega, by go_num, rfl, rfl, rfl, hgr.out⟩
          case measure => simp [intOf]; omega
        · obtain ⟨j, rfl⟩ : ∃ j, m = j + 1 := ⟨m - 1, by omega⟩
          obtain rfl : z = (j : Int) := by omega
          have hj : j < 8 := by omega
          have p0 : (0 : Int) ≤ (j : Int) := by omega
          obtain ⟨g1, g2, g3⟩ := grp_bit hgr.out (x / 2 ^ j % 2 == 1)
          obtain ⟨s1, s2, s3, s4⟩ := grp_sizes hgr.out
          have s5 := HLN.out (j + 1) (by omega)
          rw [← HX.out j hj] at g2 g3
          have hq : x / 2 ^ j < 256 := Nat.lt_of_le_of_lt (Nat.div_le_self _ _) hx
          have hand := and1 _ hq
          have hbit : ((x / 2 ^ j % 2 == 1) : Bool).toNat = x / 2 ^ j % 2 := by
            rcases Nat.mod_two_eq_zero_or_one (x / 2 ^ j) with e | e <;> rw [e] <;> rfl
          rw [hbit] at g2
          have hsn := valB_snoc rs (x / 2 ^ j % 2 == 1)
          rw [hbit] at hsn
          obtain ⟨q, hqd⟩ : ∃ q, x / 2 ^ j = q := ⟨_, rfl⟩
          have hdiv : (x : Int) / 2 ^ j = (q : Int) := by rw [← hqd]; simp
          rw [hqd] at hand g2 g3 hsn hq
          generalize hbb : (q % 2 == 1) = bb at *
          obtain ⟨cb, hcb, hc1⟩ : ∃ cb, q % 2 = cb ∧ cb ≤ 1 := ⟨_, rfl, by omega⟩
          rw [hcb] at hand g2 hsn
          have HSN := Lib.hid hsn
          have G2 := Lib.hid g2
          have G3 := Lib.hid g3
          have hrl : (rs ++ [bb]).length = rs.length + 1 := by simp
          have HRL := Lib.hid hrl
          have hsz : (bs (ts.map b64C)).size ≤ 2000 := by rw [bs_size', List.length_map]; omega
          have HSS : Hid (∀ d, bs (ts.map b64C) ++ bs [b64C d] = bs ((ts ++ [d]).map b64C)) := fun d => by rw [bs_snoc]; simp
          clear hqd hcb hbb g2 g3 hsn hrl hq hz hm hm0 hgr s1 s5 s3
          generalize hSB : bs (ts.map b64C) = S at *
          have HSB := Lib.hid hSB
          clear hSB
          generalize valB rs = V at *
          obtain ⟨u, hu, hu1⟩ : ∃ u : Nat, 2 * (V : Int) + (cb : Int) = (u : Int) ∧ 2 * V + cb = u := ⟨2 * V + cb, by omega, rfl⟩
          rw [hu1] at HSN G2
          have hu64 : u < 64 := by omega
          by_cases h5 : rs.length = 5
          · have HG := Lib.hid (G2.out h5)
            have HE1 := a64_ext u hu64
            have z1 : (bs [b64C u]).size = 1 := rfl
            have HS1 := Lib.hid (HSS.out u)
            generalize bs [b64C u] = d1 at *
            have n1 : ¬ 9223372036854775807 < S.size + 1 := by omega
            have b1 : (0 : Int) ≤ (u : Int) + 1 := by omega
            have b2 : (u : Int) + 1 ≤ 64 := by omega
            have b3 : (u : Int) ≤ (u : Int) + 1 := by omega
            have t1 : ((u : Int) + 1).toNat = u + 1 := by omega
            have w1 : IntKind.i64.wrap ((u : Int) + 1) = (u : Int) + 1 := by rw [IntKind.wrap_i64]; omega
            rw [h5]
            clear G2 G3 hu1 HSN HRL HSS h5 g1 s2
            go_wp2_with fail
            go_round
            case rel => exact ⟨j, (j : Int) - 1, ts ++ [u], [], by omega, rfl, rfl, congrArg Value.string HS1.out, rfl, rfl, HG.out⟩
            case measure => first | (simp [intOf]; done) | (simp [intOf]; omega)
          · have HG := Lib.hid (G3.out h5)
            have y1 : (((rs.length : Nat) : Int) + 1 == 6) = false := by simp; omega
            have hr6 : rs.length < 6 := g1
            clear G2 G3 hu1 HSS s2 g1
            generalize hH : rs.length = H at *
            clear hH
            go_wp2_with fail
            go_round
            case rel => exact ⟨j, (j : Int) - 1, ts, rs ++ [bb], by omega, rfl, rfl, congrArg Value.string HSB.out.symm, by rw [HSN.out], by rw [HRL.out]; go_num, HG.out⟩
            case measure => first | (simp [intOf]; done) | (simp [intOf]; omega)
    · have hkn : k = n := by omega
      subst hkn
      rw [HT.out] at hgr
      obtain ⟨s1, s2, s3, s4⟩ := grp_sizes hgr.out
      rw [H8.out] at s1
      rw [hgr.out] at HE
      clear HU HST HSE HS0 HBY hlt hgr H8 HT
      have HM : Hid ((bs (vs.map b64C)).size = vs.length) := by show _ = _; rw [bs_size', List.length_map]
      generalize hSB : bs (vs.map b64C) = S at *
      have HSB := Lib.hid hSB
      clear hSB
      have HV : Hid (valB rm < 2 ^ rm.length) := s3
      have HENC : Hid (∀ T : Str, T = encB (vs, rm) → ∀ z, z = (4 - T.length % 4) % 4 → bs T ++ bs (List.replicate z 61) = bs enc) := fun T hT z hz => by
        rw [bs_app, HE.out, ← hT, hz]; rfl
      by_cases hr0 : rm.length = 0
      · have hrn : rm = [] := List.length_eq_zero_iff.1 hr0
        have HXE : Hid (∀ z, z = (4 - vs.length % 4) % 4 → S ++ bs (List.replicate z 61) = bs enc) := fun z hz => by
          have := HENC.out (vs.map b64C) (by unfold encB; rw [hrn]; simp) z (by rw [List.length_map]; exact hz)
          rw [HSB.out] at this; exact this
        have hXs := HM.out
        have hN : vs.length ≤ 3000 := by omega
        rw [hr0]
        clear HENC HSB hrn hr0 HV HM s1 s2 s3 s4
        generalize vs.length = N at *
        go_wp2_with fail
        generalize S = X at *
        obtain ⟨P, hP⟩ : ∃ P, (4 - N % 4) % 4 = P := ⟨_, rfl⟩
        have hP3 : P ≤ 3 := by omega
        have HXP := Lib.hid (HXE.out P hP.symm)
        have HPM : Hid (∀ p, p ≤ P → ((N + p) % 4 = 0 ↔ p = P)) := fun p hp => by omega
        have HX0 : Hid (X ++ bs (List.replicate 0 61) = X) := ByteArray.append_empty
        have HXS : Hid (∀ p, X ++ bs (List.replicate p 61) ++ ⟨#[61]⟩ = X ++ bs (List.replicate (p + 1) 61)) := fun p => by
          rw [ByteArray.append_assoc]
          have e : (⟨#[61]⟩ : ByteArray) = bs [61] := rfl
          rw [e, bs_app, List.replicate_succ']
        have HXL : Hid (∀ p, (X ++ bs (List.replicate p 61)).size = N + p) := fun p => by rw [ByteArray.size_append, bs_size', List.length_replicate, hXs]
        clear hXs HXE hP
        go_loop [3, 53, 54, 55, 56, 57, 58] (fun s _ _ _ _ _ _ => ∃ p : Nat, p ≤ P ∧ s = .string (X ++ bs (List.replicate p 61))) (fun s _ _ _ _ _ _ => N + P - strLen s)
        case atStart => exact ⟨0, Nat.zero_le _, congrArg Value.string HX0.out.symm⟩
        case round =>
          obtain ⟨p, hp, rfl⟩ := hrel
          have HYS := Lib.hid (HXS.out p)
          have hys := HXL.out p
          obtain ⟨M, hM⟩ : ∃ M, N + p = M := ⟨_, rfl⟩
          rw [hM] at hys
          have hM2 : M ≤ 4000 := by omega
          obtain ⟨r, hr, hrm⟩ : ∃ r : Nat, (M : Int) % 4 = (r : Int) ∧ M % 4 = r := ⟨M % 4, by omega, rfl⟩
          have hpm := HPM.out p hp
          rw [hM, hrm] at hpm
          by_cases hlt : p < P
          · have y1 : ((r : Int) == 0) = false := by simp; omega
            have y2 : ((r : Int) != 0) = true := by simp; omega
            have n1 : ¬ 9223372036854775807 < M + 1 := by omega
            have hmeas : N + P - (M + 1) < N + P - M := by omega
            generalize X ++ bs (List.replicate p 61) = Y at *
            clear hM hrm hpm HXS HXL HPM HX0
            go_wp2_with fail
            go_round
            case rel => exact ⟨p + 1, by omega, congrArg Value.string HYS.out⟩
            case measure =>
              show N + P - (Y ++ ⟨#[61]⟩).size < N + P - Y.size
              rw [ByteArray.size_append, hys]; exact hmeas
          · have hpP : p = P := by omega
            obtain rfl : r = 0 := hpm.2 hpP
            have HF : Hid (X ++ bs (List.replicate p 61) = bs enc) := by rw [hpP]; exact HXP.out
            generalize X ++ bs (List.replicate p 61) = Y at *
            clear hM hrm hpm HXS HXL HPM HX0 hpP
            go_wp2_with fail
            go_ret
            exact ⟨by rw [← HF.out]; rfl, rfl⟩
      · have hH0 : 0 < rm.length := by omega
        have HXE : Hid (∀ z, z = (4 - (vs.length + 1) % 4) % 4 → S ++ bs [b64C (valB rm * 2 ^ (6 - rm.length))] ++ bs (List.replicate z 61) = bs enc) := fun z hz => by
          have := HENC.out (vs.map b64C ++ [b64C (valB rm * 2 ^ (6 - rm.length))]) (by unfold encB; rw [if_neg (by intro e; exact hr0 (by have e' : rm = [] := e; rw [e']; rfl))]) z (by simp; exact hz)
          rw [← bs_snoc, HSB.out] at this; exact this
        have hXs0 := HM.out
        have hN0 : vs.length ≤ 2900 := by omega
        clear HENC HSB hr0 HM s1 s3 s4
        generalize vs.length = N0 at *
        generalize valB rm = V at *
        generalize rm.length = H at *
        go_wp2_with fail
        go_loop [4, 5, 41, 42, 43, 44, 45, 46] (fun v hv _ _ _ _ _ _ => ∃ h : Nat, H ≤ h ∧ h ≤ 6 ∧ hv = .int .i64 (h : Int) ∧ v = .int .i64 ((V * 2 ^ (h - H) : Nat) : Int)) (fun _ hv _ _ _ _ _ _ => 6 - (intOf hv).toNat)
        case atStart => exact ⟨H, Nat.le_refl _, by omega, rfl, by simp⟩
        case round =>
          obtain ⟨h, hh1, hh2, rfl, rfl⟩ := hrel
          have hub : V * 2 ^ (h - H) < 2 ^ h := by
            have e : 2 ^ H * 2 ^ (h - H) = 2 ^ h := by rw [← Nat.pow_add, show H + (h - H) = h by omega]
            rw [← e]; exact Nat.mul_lt_mul_of_pos_right HV.out (Nat.pow_pos (by decide))
          have hu64 : V * 2 ^ (h - H) < 64 := Nat.lt_of_lt_of_le hub (Nat.le_trans (Nat.pow_le_pow_right (by decide) hh2) (by decide))
          by_cases hlt : h < 6
          · have HN : Hid (V * 2 ^ (h + 1 - H) = 2 * (V * 2 ^ (h - H))) := by
              show _ = _
              rw [show h + 1 - H = (h - H) + 1 by omega, Nat.pow_succ, ← Nat.mul_assoc, Nat.mul_comm]
            have i1 : (h : Int) < 6 := by omega
            clear hub
            generalize V * 2 ^ (h - H) = u at *
            go_wp2_with fail
            go_round
            case rel => exact ⟨h + 1, by omega, by omega, by go_num, by rw [HN.out]; go_num⟩
            case measure => simp [intOf]; omega
          · obtain rfl : h = 6 := by omega
            have HE1 := a64_ext _ hu64
            have z1 : (bs [b64C (V * 2 ^ (6 - H))]).size = 1 := rfl
            clear hub
            generalize V * 2 ^ (6 - H) = u at *
            generalize bs [b64C u] = d1 at *
            have n1 : ¬ 9223372036854775807 < S.size + 1 := by omega
            have b0 : (0 : Int) ≤ (u : Int) := by omega
            have b1 : (0 : Int) ≤ (u : Int) + 1 := by omega
            have b2 : (u : Int) + 1 ≤ 64 := by omega
            have b3 : (u : Int) ≤ (u : Int) + 1 := by omega
            have t1 : ((u : Int) + 1).toNat = u + 1 := by omega
            have w1 : IntKind.i64.wrap ((u : Int) + 1) = (u : Int) + 1 := by rw [IntKind.wrap_i64]; omega
            go_wp2_with fail
            have hXs : (S ++ d1).size = N0 + 1 := by rw [ByteArray.size_append, hXs0, z1]
            have hN : N0 + 1 ≤ 3000 := by omega
            clear hXs0 z1 HE1 n1 b0 b1 b2 b3 t1 w1
            generalize N0 + 1 = N at *
            generalize S ++ d1 = X at *
            obtain ⟨P, hP⟩ : ∃ P, (4 - N % 4) % 4 = P := ⟨_, rfl⟩
            have hP3 : P ≤ 3 := by omega
            have HXP := Lib.hid (HXE.out P hP.symm)
            have HPM : Hid (∀ p, p ≤ P → ((N + p) % 4 = 0 ↔ p = P)) := fun p hp => by omega
            have HX0 : Hid (X ++ bs (List.replicate 0 61) = X) := ByteArray.append_empty
            have HXS : Hid (∀ p, X ++ bs (List.replicate p 61) ++ ⟨#[61]⟩ = X ++ bs (List.replicate (p + 1) 61)) := fun p => by
              rw [ByteArray.append_assoc]
              have e : (⟨#[61]⟩ : ByteArray) = bs [61] := rfl
              rw [e, bs_app, List.replicate_succ']
            have HXL : Hid (∀ p, (X ++ bs (List.replicate p 61)).size = N + p) := fun p => by rw [ByteArray.size_append, bs_size', List.length_replicate, hXs]
            clear hXs HXE hP
            go_loop [3, 53, 54, 55, 56, 57, 58] (fun s _ _ _ _ _ _ => ∃ p : Nat, p ≤ P ∧ s = .string (X ++ bs (List.replicate p 61))) (fun s _ _ _ _ _ _ => N + P - strLen s)
            case atStart => exact ⟨0, Nat.zero_le _, congrArg Value.string HX0.out.symm⟩
            case round =>
              obtain ⟨p, hp, rfl⟩ := hrel
              have HYS := Lib.hid (HXS.out p)
              have hys := HXL.out p
              obtain ⟨M, hM⟩ : ∃ M, N + p = M := ⟨_, rfl⟩
              rw [hM] at hys
              have hM2 : M ≤ 4000 := by omega
              obtain ⟨r, hr, hrm⟩ : ∃ r : Nat, (M : Int) % 4 = (r : Int) ∧ M % 4 = r := ⟨M % 4, by omega, rfl⟩
              have hpm := HPM.out p hp
              rw [hM, hrm] at hpm
              by_cases hlt : p < P
              · have y1 : ((r : Int) == 0) = false := by simp; omega
                have y2 : ((r : Int) != 0) = true := by simp; omega
                have n1 : ¬ 9223372036854775807 < M + 1 := by omega
                have hmeas : N + P - (M + 1) < N + P - M := by omega
                generalize X ++ bs (List.replicate p 61) = Y at *
                clear hM hrm hpm HXS HXL HPM HX0
                go_wp2_with fail
                go_round
                case rel => exact ⟨p + 1, by omega, congrArg Value.string HYS.out⟩
                case measure =>
                  show N + P - (Y ++ ⟨#[61]⟩).size < N + P - Y.size
                  rw [ByteArray.size_append, hys]; exact hmeas
              · have hpP : p = P := by omega
                obtain rfl : r = 0 := hpm.2 hpP
                have HF : Hid (X ++ bs (List.replicate p 61) = bs enc) := by rw [hpP]; exact HXP.out
                generalize X ++ bs (List.replicate p 61) = Y at *
                clear hM hrm hpm HXS HXL HPM HX0 hpP
                go_wp2_with fail
                go_ret
                exact ⟨by rw [← HF.out]; rfl, rfl⟩
end Go.Proofs.YtcdcmohccbhchaaGreatDoor

namespace Go.Proofs.YtcdcmohccbhchaaGreatDoor
open Go.RowKit

theorem wpList_append_u8s (w : World) {ops : Array Oper} {rest : List Oper} {o : Oper} {a : Act} {Q : Exit → Act → World → Prop} (hgd : o.guard = none) (s x : Operand)
    (ho : o.op = .call { callee := .builtin .append, args := #[s, x], argTypes := #[69, 69] }) (base : Nat) (v : Value) (xs : List UInt8) (hs : a.eval s = v) (hown : OwnU w base v xs)
    (sv : Value) (ys : List UInt8) (hx : a.eval x = sv) (hsl : SlAt w sv 1 (rowsU ys)) (n : Nat) (hn : xs.length + ys.length = n) (h63 : n ≤ 1000000) (hbase : base ≤ w.heap.size)
    (h : ∀ a' c' w', OwnU w' base (.slice a' n c') (xs ++ ys) → w.grownBy w' v.ownBlock → wpList Tryz.prog ops Q rest (a.put o.dst (.slice a' n c')) w') :
    wpList Tryz.prog ops Q (o :: rest) a w := by
  subst hn
  obtain ⟨i, z, h1, h2, h3, h4, h5⟩ := infoU
  refine wpList_append_sl w hgd s x 69 ho base 5 i z 1 1 Tryz.underlying69 h1 h2 h3 h4 h5 (by decide) v xs.length (xs.map cU) hs hown sv (rowsU ys) hx hsl (rowsU_len _) (rowsU_one _) (by rw [rowsU_length]; exact h63) (by decide) hbase ?_
  intro a' c' w' ho' hg _
  rw [rowsU_flat, rowsU_length] at ho'
  rw [rowsU_length]
  refine h a' c' w' ?_ hg
  unfold OwnU
  rw [List.map_append, List.length_append]; exact ho'
set_option maxRecDepth 100000 in
set_option maxHeartbeats 2000000 in
theorem refBytesC (h : Int) (r : Aut) (w : World) (h1 : 1 ≤ h) (h8 : h ≤ 8) : Calls Tryz.prog 39 #[.int .i64 h, .agg (bC r).toArray] w fun e w' => ∃ v, e = .returned v ∧ OwnU w' w.heap.size v (pubB h r) ∧ Gr w w' := by
  have hb := heap_alloc_new w (.cells (bC r).toArray 24)
  have g0 := (Gr.refl w).alloc (.cells (bC r).toArray 24)
  have HBY : Hid (ByAt (w.alloc (.cells (bC r).toArray 24)) w.heap.size 0 r.toList) := ByAt.vec hb
  have hz : w.heap.size < (w.alloc (.cells (bC r).toArray 24)).heap.size := by simp
  have G0 := Lib.hid g0
  obtain ⟨n, hn⟩ : ∃ n : Nat, h = (n : Int) := ⟨h.toNat, by omega⟩
  subst hn
  have hw : IntKind.u8.wrap (n : Int) = (n : Int) := by rw [IntKind.wrap_u8]; omega
  have hw2 : (n : Int) % 256 = (n : Int) := by omega
  have e1 : cU (UInt8.ofNat n) = .int .u8 (n : Int) := by unfold cU; simp; omega
  have E1 := Lib.hid e1
  have HPB : Hid ([UInt8.ofNat n] ++ r.toList = pubB (n : Int) r) := rfl
  clear hb g0 e1
  have HO : Hid (OwnU ((w.alloc (.cells (bC r).toArray 24)).alloc (.cells #[.int .u8 (n : Int)] 5)) w.heap.size (.slice (some ⟨w.heap.size + 1, 0, none⟩) 1 1) [UInt8.ofNat n]) := by
    rw [← E1.out]
    have := OwnU.made (w := (w.alloc (.cells (bC r).toArray 24)).alloc (.cells ([UInt8.ofNat n].map cU).toArray 5)) (base := w.heap.size) (l := [UInt8.ofNat n]) (b := w.heap.size + 1) (heap_alloc2_new w _ _) (by omega) (by simp)
    exact this
  have HSL := Lib.hid ((HBY.out.gr ((Gr.refl _).alloc (.cells #[.int .u8 (n : Int)] 5))).sl 16 16 (by simp) (Nat.le_refl _))
  have HZ : Hid (w.heap.size ≤ ((w.alloc (.cells (bC r).toArray 24)).alloc (.cells #[.int .u8 (n : Int)] 5)).heap.size) := by show _ ≤ _; simp; omega
  go_enter Tryz.func39, Tryz.ntmps39
  go_wp2_with (refine wpList_append_u8s _ rfl _ _ rfl w.heap.size (.slice (some ⟨w.heap.size + 1, 0, none⟩) 1 1) [UInt8.ofNat n] (by simp [Act.eval]) HO.out (.slice (some ⟨w.heap.size, 0, none⟩) 16 16) r.toList (by simp [Act.eval]) HSL.out 17 (by simp) (by decide) HZ.out ?_; intro a1 c1 w1 ho1 hg1)
  go_ret
  exact ⟨_, rfl, by rw [← HPB.out]; exact ho1, ((G0.out.alloc _).grown hg1 (fun k hk => by cases hk; exact Nat.le_succ _))⟩

/-! ### what is printed, word by word -/
theorem range_mid {w : World} {b o n : Nat} {cs : List Value} (h1 : hasRow w ⟨b, o, none⟩ n = true) (h2 : rowAt w ⟨b, o, none⟩ n = cs) : w.rangeAt b o cs := fun j v hj => by
  have hn : cs.length = n := by rw [← h2]; simp [rowAt]
  have hlt := (List.getElem?_eq_some_iff.1 hj).1
  exact (cell_row h1 h2 j (by omega)).trans hj
theorem bs_eq (s : ByteArray) : s = bs (bl s) := rfl
theorem print1 (t : Id) (g : ByteArray) (n : Int) (m : Bool) (l : List Aut) (tx : ByteArray) (nu ht : Int) (r : Aut) : kindS 1 ++ ⟨#[32]⟩ ++ bs (midT t) = bs (printS ⟨1, t, g, n, m, l, tx, nu, ht, r⟩) := by
  have e : (⟨#[32]⟩ : ByteArray) = bs [32] := rfl
  rw [bs_eq (kindS 1), e, bs_app, bs_app]
  apply congrArg bs
  show _ = Lib.join [bl (kindS 1), midT t] [32]
  rw [join2]
theorem print2 (t : Id) (g : ByteArray) (n : Int) (m : Bool) (l : List Aut) (tx : ByteArray) (nu ht : Int) (r : Aut) : kindS 2 ++ ⟨#[32]⟩ ++ bs (midT t) ++ ⟨#[32]⟩ ++ g = bs (printS ⟨2, t, g, n, m, l, tx, nu, ht, r⟩) := by
  have e : (⟨#[32]⟩ : ByteArray) = bs [32] := rfl
  rw [bs_eq (kindS 2), e, bs_eq g, bs_app, bs_app, bs_app, bs_app]
  apply congrArg bs
  show _ = Lib.join [bl (kindS 2), midT t, bl g] [32]
  rw [join_cons2, join2]; simp
theorem print4 (t : Id) (g : ByteArray) (n : Nat) (m : Bool) (l : List Aut) (tx : ByteArray) (nu ht : Int) (r : Aut) : kindS 4 ++ ⟨#[32]⟩ ++ g ++ ⟨#[32]⟩ ++ bs (Lib.decDigits n) = bs (printS ⟨4, t, g, (n : Int), m, l, tx, nu, ht, r⟩) := by
  have e : (⟨#[32]⟩ : ByteArray) = bs [32] := rfl
  rw [bs_eq (kindS 4), e, bs_eq g, bs_app, bs_app, bs_app, bs_app]
  apply congrArg bs
  show _ = Lib.join [bl (kindS 4), bl g, bl (itoaS n)] [32]
  rw [join_cons2, join2, itoa_nat _ (by omega)]; simp
theorem print5 (t : Id) (g : ByteArray) (n : Int) (m : Bool) (l : List Aut) (tx : ByteArray) (nu : Nat) (ht : Int) (r : Aut) : kindS 5 ++ ⟨#[32]⟩ ++ bs (Lib.decDigits nu) ++ ⟨#[32]⟩ ++ bs (encL (pubB ht r)) = bs (printS ⟨5, t, g, n, m, l, tx, (nu : Int), ht, r⟩) := by
  have e : (⟨#[32]⟩ : ByteArray) = bs [32] := rfl
  rw [bs_eq (kindS 5), e, bs_app, bs_app, bs_app, bs_app]
  apply congrArg bs
  show _ = Lib.join [bl (kindS 5), bl (itoaS nu), pubT ht r] [32]
  rw [join_cons2, join2, itoa_nat _ (by omega), pubT_eq]; simp
set_option maxRecDepth 100000 in
set_option maxHeartbeats 4000000 in
theorem refPrint1 (t : Id) (g : ByteArray) (n : Int) (m : Bool) (l : List Aut) (tx : ByteArray) (nu ht : Int) (r : Aut) (v : Value) (w : World) (hc : Calls Tryz.prog 18 #[.agg (cmC ⟨1, t, g, n, m, l, tx, nu, ht, r⟩ v).toArray] (w.alloc (.cells (cmC ⟨1, t, g, n, m, l, tx, nu, ht, r⟩ v).toArray 26)) fun e w' => e = .returned (.int .i64 0) ∧ Gr (w.alloc (.cells (cmC ⟨1, t, g, n, m, l, tx, nu, ht, r⟩ v).toArray 26)) w') :
    Calls Tryz.prog 16 #[.agg (cmC ⟨1, t, g, n, m, l, tx, nu, ht, r⟩ v).toArray] w fun e w' => e = .returned (.tuple #[.string (bs (printS ⟨1, t, g, n, m, l, tx, nu, ht, r⟩)), .int .i64 0]) ∧ Gr w w' := by
  have HC := Lib.hid hc
  have G0 := Lib.hid ((Gr.refl w).alloc (.cells (cmC ⟨1, t, g, n, m, l, tx, nu, ht, r⟩ v).toArray 26))
  have HP := Lib.hid (print1 t g n m l tx nu ht r)
  have HN := Lib.hid (refNameC 1)
  have HM := Lib.hid (refMidC t)
  have hz1 : (kindS 1).size = 6 := rfl
  have hz2 : (bs (midT t)).size = 71 := by rw [bs_size', midT_len]
  generalize bs (printS ⟨1, t, g, n, m, l, tx, nu, ht, r⟩) = P at *
  generalize kindS 1 = ks at *
  generalize bs (midT t) = mt at *
  clear hc
  go_enter Tryz.func16, Tryz.ntmps16
  go_wp2_with (first
    | (go_at_call 18; with_reducible refine HC.out.mono ?_; rintro e w1 ⟨rfl, hg1⟩; obtain ⟨p1, rfl⟩ := hg1.gw)
    | (go_at_call 29; with_reducible refine (HN.out _).mono ?_; rintro e w2 ⟨rfl, hg2⟩; obtain ⟨p2, rfl⟩ := ((gr_gw _ _).trans hg2).gw)
    | (go_at_call 36; with_reducible refine (HM.out _).mono ?_; rintro e w3 ⟨rfl, hg3⟩; obtain ⟨p3, rfl⟩ := ((gr_gw _ _).trans hg3).gw))
  go_ret2
  exact ⟨by rw [← HP.out]; rfl, G0.out.trans (gr_gw _ _)⟩
set_option maxRecDepth 100000 in
set_option maxHeartbeats 4000000 in
theorem refPrint2 (t : Id) (g : ByteArray) (n : Int) (m : Bool) (l : List Aut) (tx : ByteArray) (nu : Int) (ht : Int) (r : Aut) (v : Value) (w : World) (hg80 : g.size ≤ 80) (hc : Calls Tryz.prog 18 #[.agg (cmC ⟨2, t, g, n, m, l, tx, nu, ht, r⟩ v).toArray] (w.alloc (.cells (cmC ⟨2, t, g, n, m, l, tx, nu, ht, r⟩ v).toArray 26)) fun e w' => e = .returned (.int .i64 0) ∧ Gr (w.alloc (.cells (cmC ⟨2, t, g, n, m, l, tx, nu, ht, r⟩ v).toArray 26)) w') :
    Calls Tryz.prog 16 #[.agg (cmC ⟨2, t, g, n, m, l, tx, nu, ht, r⟩ v).toArray] w fun e w' => e = .returned (.tuple #[.string (bs (printS ⟨2, t, g, n, m, l, tx, nu, ht, r⟩)), .int .i64 0]) ∧ Gr w w' := by
  have HC := Lib.hid hc
  have hB := heap_alloc_new w (.cells (cmC ⟨2, t, g, n, m, l, tx, nu, ht, r⟩ v).toArray 26)
  have G0 := Lib.hid ((Gr.refl w).alloc (.cells (cmC ⟨2, t, g, n, m, l, tx, nu, ht, r⟩ v).toArray 26))
  have HF : Hid (∀ W, Gr (w.alloc (.cells (cmC ⟨2, t, g, n, m, l, tx, nu, ht, r⟩ v).toArray 26)) W → W.heap[w.heap.size]? = some (.cells (cmC ⟨2, t, g, n, m, l, tx, nu, ht, r⟩ v).toArray 26 (0, 0))) := fun W h => (h.block (by simp)).trans hB
  clear hc hB
  have HN := Lib.hid (refNameC 2)
  have HP := Lib.hid (print2 t g n m l tx nu ht r)
  have HM := Lib.hid (refMidC t)
  have hz1 : (kindS 2).size = 7 := rfl
  have hz2 : (bs (midT t)).size = 71 := by rw [bs_size', midT_len]
  generalize bs (printS ⟨2, t, g, n, m, l, tx, nu, ht, r⟩) = P at *
  generalize kindS 2 = ks at *
  generalize bs (midT t) = mt at *
  go_enter Tryz.func16, Tryz.ntmps16
  go_wp2_with (first
    | (go_at_call 18; with_reducible refine HC.out.mono ?_; rintro e w1 ⟨rfl, hg1⟩; obtain ⟨p1, rfl⟩ := hg1.gw)
    | (go_at_call 29; with_reducible refine (HN.out _).mono ?_; rintro e w2 ⟨rfl, hg2⟩; obtain ⟨p2, rfl⟩ := ((gr_gw _ _).trans hg2).gw))
  have gA := gr_gw (w.alloc (.cells (cmC ⟨2, t, g, n, m, l, tx, nu, ht, r⟩ v).toArray 26)) p2
  generalize gw (w.alloc (.cells (cmC ⟨2, t, g, n, m, l, tx, nu, ht, r⟩ v).toArray 26)) p2 = U at *
  have HS : Hid (∀ W, Gr U W → W.rangeAt w.heap.size 1 (bC t) ∧ W.cell? ⟨w.heap.size, 33, none⟩ = some (.string g)) := fun W h => by
    have f := cm_facts (HF.out W (gA.trans h))
    exact ⟨range_mid f.2.2.2.2.2.2.2.2.1 f.2.2.2.2.2.2.2.2.2.1, f.2.1⟩
  have hun := Tryz.underlying22
  have hin : (Tryz.prog.info? 22).map (·.size) = some (bC t).length := by rw [bC_length]; kernel_rfl
  have g0 := (Gr.refl U).drew
  have GA := Lib.hid (G0.out.trans gA)
  clear gA HF HN HC
  go_region_held_law (fun u => u.rangeAt w.heap.size 1 (bC t) ∧ u.cell? ⟨w.heap.size, 33, none⟩ = some (.string g))
    (first | with_reducible exact HS.out _ g1 | with_reducible exact HS.out _ g0)
    (first
      | (go_at_call 36; with_reducible refine (HM.out _).mono ?_; rintro e w3 ⟨rfl, hg3⟩; have g1 := g0.trans hg3))
  all_goals
    go_wp2_with fail
    go_ret2
    exact ⟨by rw [← HP.out]; rfl, GA.out.trans g1⟩
set_option maxRecDepth 100000 in
set_option maxHeartbeats 4000000 in
theorem refPrint4 (t : Id) (g : ByteArray) (n : Nat) (m : Bool) (l : List Aut) (tx : ByteArray) (nu : Int) (ht : Int) (r : Aut) (v : Value) (w : World) (hg80 : g.size ≤ 80) (hn : n ≤ 1000000) (hc : Calls Tryz.prog 18 #[.agg (cmC ⟨4, t, g, (n : Int), m, l, tx, nu, ht, r⟩ v).toArray] (w.alloc (.cells (cmC ⟨4, t, g, (n : Int), m, l, tx, nu, ht, r⟩ v).toArray 26)) fun e w' => e = .returned (.int .i64 0) ∧ Gr (w.alloc (.cells (cmC ⟨4, t, g, (n : Int), m, l, tx, nu, ht, r⟩ v).toArray 26)) w') :
    Calls Tryz.prog 16 #[.agg (cmC ⟨4, t, g, (n : Int), m, l, tx, nu, ht, r⟩ v).toArray] w fun e w' => e = .returned (.tuple #[.string (bs (printS ⟨4, t, g, (n : Int), m, l, tx, nu, ht, r⟩)), .int .i64 0]) ∧ Gr w w' := by
  have HC := Lib.hid hc
  have hB := heap_alloc_new w (.cells (cmC ⟨4, t, g, (n : Int), m, l, tx, nu, ht, r⟩ v).toArray 26)
  have G0 := Lib.hid ((Gr.refl w).alloc (.cells (cmC ⟨4, t, g, (n : Int), m, l, tx, nu, ht, r⟩ v).toArray 26))
  have HF : Hid (∀ W, Gr (w.alloc (.cells (cmC ⟨4, t, g, (n : Int), m, l, tx, nu, ht, r⟩ v).toArray 26)) W → W.heap[w.heap.size]? = some (.cells (cmC ⟨4, t, g, (n : Int), m, l, tx, nu, ht, r⟩ v).toArray 26 (0, 0))) := fun W h => (h.block (by simp)).trans hB
  clear hc hB
  have HN := Lib.hid (refNameC 4)
  have HP := Lib.hid (print4 t g n m l tx nu ht r)
  have HD : Hid (∀ W, Calls Tryz.prog 37 #[.int .i64 (n : Int)] W fun e w' => e = .returned (.string (bs (Lib.decDigits n))) ∧ Gr W w') := fun W => refDecC n n (Nat.le_refl _) (by omega) W
  have hz1 : (kindS 4).size = 6 := rfl
  have hz2 : (bs (Lib.decDigits n)).size ≤ 9 := by rw [bs_size']; exact dec_len 8 _ (by omega)
  generalize bs (printS ⟨4, t, g, (n : Int), m, l, tx, nu, ht, r⟩) = P at *
  generalize kindS 4 = ks at *
  generalize bs (Lib.decDigits n) = ds at *
  go_enter Tryz.func16, Tryz.ntmps16
  go_wp2_with (first
    | (go_at_call 18; with_reducible refine HC.out.mono ?_; rintro e w1 ⟨rfl, hg1⟩; obtain ⟨p1, rfl⟩ := hg1.gw)
    | (go_at_call 29; with_reducible refine (HN.out _).mono ?_; rintro e w2 ⟨rfl, hg2⟩; obtain ⟨p2, rfl⟩ := ((gr_gw _ _).trans hg2).gw))
  have gA := gr_gw (w.alloc (.cells (cmC ⟨4, t, g, (n : Int), m, l, tx, nu, ht, r⟩ v).toArray 26)) p2
  generalize gw (w.alloc (.cells (cmC ⟨4, t, g, (n : Int), m, l, tx, nu, ht, r⟩ v).toArray 26)) p2 = U at *
  have HS : Hid (∀ W, Gr U W → W.cell? ⟨w.heap.size, 33, none⟩ = some (.string g) ∧ W.cell? ⟨w.heap.size, 34, none⟩ = some (.int .i64 (n : Int))) := fun W h => by
    have f := cm_facts (HF.out W (gA.trans h))
    exact ⟨f.2.1, f.2.2.1⟩
  have g0 := (Gr.refl U).drew
  have GA := Lib.hid (G0.out.trans gA)
  clear gA HF HN HC
  go_region_held_law (fun u => u.cell? ⟨w.heap.size, 33, none⟩ = some (.string g) ∧ u.cell? ⟨w.heap.size, 34, none⟩ = some (.int .i64 (n : Int)))
    (first | with_reducible exact HS.out _ g1 | with_reducible exact HS.out _ g0)
    (first
      | (go_at_call 37; with_reducible refine (HD.out _).mono ?_; rintro e w3 ⟨rfl, hg3⟩; have g1 := g0.trans hg3))
  all_goals
    go_wp2_with fail
    go_ret2
    exact ⟨by rw [← HP.out]; rfl, GA.out.trans g1⟩
set_option maxRecDepth 100000 in
set_option maxHeartbeats 4000000 in
theorem refPrint5 (t : Id) (g : ByteArray) (n : Int) (m : Bool) (l : List Aut) (tx : ByteArray) (nu : Nat) (ht : Int) (r : Aut) (v : Value) (w : World) (hn0 : 1 ≤ nu) (hn : nu ≤ 1000) (h1 : 1 ≤ ht) (h8 : ht ≤ 8) (hc : Calls Tryz.prog 18 #[.agg (cmC ⟨5, t, g, n, m, l, tx, (nu : Int), ht, r⟩ v).toArray] (w.alloc (.cells (cmC ⟨5, t, g, n, m, l, tx, (nu : Int), ht, r⟩ v).toArray 26)) fun e w' => e = .returned (.int .i64 0) ∧ Gr (w.alloc (.cells (cmC ⟨5, t, g, n, m, l, tx, (nu : Int), ht, r⟩ v).toArray 26)) w') :
    Calls Tryz.prog 16 #[.agg (cmC ⟨5, t, g, n, m, l, tx, (nu : Int), ht, r⟩ v).toArray] w fun e w' => e = .returned (.tuple #[.string (bs (printS ⟨5, t, g, n, m, l, tx, (nu : Int), ht, r⟩)), .int .i64 0]) ∧ Gr w w' := by
  have HC := Lib.hid hc
  have hB := heap_alloc_new w (.cells (cmC ⟨5, t, g, n, m, l, tx, (nu : Int), ht, r⟩ v).toArray 26)
  have G0 := Lib.hid ((Gr.refl w).alloc (.cells (cmC ⟨5, t, g, n, m, l, tx, (nu : Int), ht, r⟩ v).toArray 26))
  have HF : Hid (∀ W, Gr (w.alloc (.cells (cmC ⟨5, t, g, n, m, l, tx, (nu : Int), ht, r⟩ v).toArray 26)) W → W.heap[w.heap.size]? = some (.cells (cmC ⟨5, t, g, n, m, l, tx, (nu : Int), ht, r⟩ v).toArray 26 (0, 0))) := fun W h => (h.block (by simp)).trans hB
  clear hc hB
  have HN := Lib.hid (refNameC 5)
  have HP := Lib.hid (print5 t g n m l tx nu ht r)
  have HD : Hid (∀ W, Calls Tryz.prog 37 #[.int .i64 (nu : Int)] W fun e w' => e = .returned (.string (bs (Lib.decDigits nu))) ∧ Gr W w') := fun W => refDecC nu nu (Nat.le_refl _) (by omega) W
  have HBY : Hid (∀ W, Calls Tryz.prog 39 #[.int .i64 ht, .agg (bC r).toArray] W fun e w' => ∃ g c, e = .returned (.slice (some ⟨g, 0, none⟩) 17 c) ∧ ByAt w' g 0 (pubB ht r) ∧ Gr W w') := fun W => (refBytesC ht r W h1 h8).mono fun e w' ⟨v, he, hv, hg⟩ => by
    obtain ⟨g, c, hvv, hc, hgl, _, hcell⟩ := hv.cells (by intro e; have := pubB_len ht r; rw [e] at this; cases this)
    subst hvv
    rw [pubB_len] at he
    exact ⟨g, c, he, ⟨hgl, hcell⟩, hg⟩
  have HEN : Hid (∀ W g c, ByAt W g 0 (pubB ht r) → Calls Tryz.prog 38 #[.slice (some ⟨g, 0, none⟩) 17 c] W fun e w' => e = .returned (.string (bs (encL (pubB ht r)))) ∧ W = w') := fun W g c h => by
    have := refEncC g 0 c (pubB ht r) W (by rw [pubB_len]; decide) h
    rwa [pubB_len] at this
  have hz1 : (kindS 5).size = 5 := rfl
  have hz2 : (bs (Lib.decDigits nu)).size ≤ 9 := by rw [bs_size']; exact dec_len 8 _ (by omega)
  have hz3 : (bs (encL (pubB ht r))).size ≤ 24 := by rw [bs_size', ← pubT_eq]; exact (fld_pub ht r).2
  generalize bs (printS ⟨5, t, g, n, m, l, tx, (nu : Int), ht, r⟩) = P at *
  generalize kindS 5 = ks at *
  generalize bs (Lib.decDigits nu) = ds at *
  generalize bs (encL (pubB ht r)) = es at *
  go_enter Tryz.func16, Tryz.ntmps16
  go_wp2_with (first
    | (go_at_call 18; with_reducible refine HC.out.mono ?_; rintro e w1 ⟨rfl, hg1⟩; obtain ⟨p1, rfl⟩ := hg1.gw)
    | (go_at_call 29; with_reducible refine (HN.out _).mono ?_; rintro e w2 ⟨rfl, hg2⟩; obtain ⟨p2, rfl⟩ := ((gr_gw _ _).trans hg2).gw))
  have gA := gr_gw (w.alloc (.cells (cmC ⟨5, t, g, n, m, l, tx, (nu : Int), ht, r⟩ v).toArray 26)) p2
  generalize gw (w.alloc (.cells (cmC ⟨5, t, g, n, m, l, tx, (nu : Int), ht, r⟩ v).toArray 26)) p2 = U at *
  have HS : Hid (∀ W, Gr U W → W.cell? ⟨w.heap.size, 38, none⟩ = some (.int .i64 (nu : Int)) ∧ W.cell? ⟨w.heap.size, 39, none⟩ = some (.int .i64 ht) ∧ W.rangeAt w.heap.size 40 (bC r)) := fun W h => by
    have f := cm_facts (HF.out W (gA.trans h))
    exact ⟨f.2.2.2.2.2.2.1, f.2.2.2.2.2.2.2.1, range_mid f.2.2.2.2.2.2.2.2.2.2.2.2.1 f.2.2.2.2.2.2.2.2.2.2.2.2.2.1⟩
  have hun := Tryz.underlying24
  have hin : (Tryz.prog.info? 24).map (·.size) = some (bC r).length := by rw [bC_length]; kernel_rfl
  have g0 := (Gr.refl U).drew
  have GA := Lib.hid (G0.out.trans gA)
  clear gA HF HN HC
  go_region_held_law (fun u => u.cell? ⟨w.heap.size, 38, none⟩ = some (.int .i64 (nu : Int)) ∧ u.cell? ⟨w.heap.size, 39, none⟩ = some (.int .i64 ht) ∧ u.rangeAt w.heap.size 40 (bC r))
    (first | with_reducible exact HS.out _ g3 | with_reducible exact HS.out _ g2 | with_reducible exact HS.out _ g1 | with_reducible exact HS.out _ g0)
    (first
      | (go_at_call 37; with_reducible refine (HD.out _).mono ?_; rintro e w3 ⟨rfl, hg3⟩; have g1 := g0.trans hg3)
      | (go_at_call 39; with_reducible refine (HBY.out _).mono ?_; rintro e w4 ⟨gg, cc, rfl, hby, hg4⟩; have g2 := g1.trans hg4)
      | (go_at_call 38; with_reducible refine (HEN.out _ _ _ hby).mono ?_; rintro e w5 ⟨rfl, rfl⟩))
  all_goals
    go_wp2_with fail
    go_ret2
    exact ⟨by rw [← HP.out]; rfl, GA.out.trans g2⟩
end Go.Proofs.YtcdcmohccbhchaaGreatDoor

namespace Go.Proofs.YtcdcmohccbhchaaGreatDoor
open Go.RowKit

/-! ### the text of a definition -/
def opnA (g : ByteArray) (n : Nat) : ByteArray := kindS 3 ++ ⟨#[32]⟩ ++ g ++ ⟨#[32]⟩ ++ bs (Lib.decDigits n) ++ ⟨#[32, 111, 112, 101, 110]⟩
def modA (g : ByteArray) (n : Nat) : ByteArray := (opnA g n).extract 0 ((opnA g n).size - 4) ++ ⟨#[109, 111, 100, 101, 114, 97, 116, 101, 100, 32]⟩
def jnA (l : List Aut) : Str := Lib.join (l.map fun a => hexT a.toList) [44]
theorem app_nil (x : ByteArray) : x ++ ⟨#[]⟩ = x := ByteArray.append_empty
theorem join_appc (c : UInt8) : ∀ (l m : List Str), l ≠ [] → m ≠ [] → Lib.join (l ++ m) [c] = Lib.join l [c] ++ c :: Lib.join m [c]
  | [], _, h, _ => absurd rfl h
  | [a], b :: m, _, _ => by rw [List.singleton_append, join_cons2, Lib.join_one, List.append_assoc]; rfl
  | [a], [], _, h => absurd rfl h
  | a :: b :: l, m, _, h => by
    have ih := join_appc c (b :: l) m (by simp) h
    rw [List.cons_append, List.cons_append, join_cons2, ← List.cons_append, ih, join_cons2, List.append_assoc, List.append_assoc, List.append_assoc]
theorem bs_extract (a b : Str) (k : Nat) (h : k = a.length) : (bs (a ++ b)).extract 0 k = bs a := by
  subst h
  apply ByteArray.ext
  rw [ByteArray.data_extract]
  simp [bs]
theorem opnA_bs (g : ByteArray) (n : Nat) : opnA g n = bs ((bl (kindS 3) ++ [32] ++ bl g ++ [32] ++ Lib.decDigits n ++ [32]) ++ openT) := by
  unfold opnA
  have e : (⟨#[32]⟩ : ByteArray) = bs [32] := rfl
  have e2 : (⟨#[32, 111, 112, 101, 110]⟩ : ByteArray) = bs ([32] ++ openT) := rfl
  rw [bs_eq (kindS 3), e, e2, bs_eq g, bs_app, bs_app, bs_app, bs_app, bs_app]
  simp [bl_bs]
theorem opnA_size (g : ByteArray) (n : Nat) (hn : n ≤ 1000000) : (opnA g n).size ≤ 23 + g.size ∧ 4 ≤ (opnA g n).size := by
  rw [opnA_bs, bs_size']
  have h1 : (bl (kindS 3)).length = 6 := rfl
  have h2 := dec_len 8 n (by omega)
  have h3 : openT.length = 4 := rfl
  simp only [List.length_append, h1, h3, bl_length, List.length_cons, List.length_nil]
  omega
theorem modA_bs (g : ByteArray) (n : Nat) : modA g n = bs ((bl (kindS 3) ++ [32] ++ bl g ++ [32] ++ Lib.decDigits n ++ [32]) ++ (modT ++ [32])) := by
  unfold modA
  have e3 : (⟨#[109, 111, 100, 101, 114, 97, 116, 101, 100, 32]⟩ : ByteArray) = bs (modT ++ [32]) := rfl
  have hs : (opnA g n).size - 4 = (bl (kindS 3) ++ [32] ++ bl g ++ [32] ++ Lib.decDigits n ++ [32]).length := by
    rw [opnA_bs, bs_size', List.length_append]; rfl
  rw [hs, opnA_bs, bs_extract _ _ _ rfl, e3, bs_app]
theorem print3 (t : Id) (g : ByteArray) (n : Nat) (m : Bool) (l : List Aut) (tx : ByteArray) (nu ht : Int) (r : Aut) :
    bs (printS ⟨3, t, g, (n : Int), m, l, tx, nu, ht, r⟩) = (if m = true then modA g n ++ bs (jnA l) else opnA g n) ++ (if tx = ⟨#[]⟩ then ⟨#[]⟩ else ⟨#[32]⟩ ++ tx) := by
  have e : (⟨#[32]⟩ : ByteArray) = bs [32] := rfl
  have hw : bl (itoaS (n : Int)) = Lib.decDigits n := by rw [itoa_nat _ (by omega)]; rfl
  have h1 : printS ⟨3, t, g, (n : Int), m, l, tx, nu, ht, r⟩ = Lib.join ([bl (kindS 3), bl g, Lib.decDigits n, bl (modeS ⟨3, t, g, (n : Int), m, l, tx, nu, ht, r⟩)] ++ (if tx = ⟨#[]⟩ then [] else [bl tx])) [32] := by
    unfold printS wordsP
    rw [if_neg (show ¬ (3 : Int) = 1 by decide), if_neg (show ¬ (3 : Int) = 2 by decide), if_pos rfl, List.map_append]
    simp only [List.map_cons, List.map_nil, List.map_append, hw]
    split <;> simp
  have h2 : bl (modeS ⟨3, t, g, (n : Int), m, l, tx, nu, ht, r⟩) = if m = true then modT ++ 32 :: jnA l else openT := by
    unfold modeS
    cases m <;> rfl
  rw [h1, h2]
  by_cases hx : tx = ⟨#[]⟩
  · rw [if_pos hx, if_pos hx, List.append_nil, join_cons2, join_cons2, join2, app_nil]
    cases m
    · rw [if_neg (by decide), if_neg (by decide), opnA_bs]; simp
    · rw [if_pos rfl, if_pos rfl, modA_bs, bs_app]; simp
  · rw [if_neg hx, if_neg hx]
    show bs (Lib.join [_, _, _, _, _] _) = _
    rw [join_cons2, join_cons2, join_cons2, join2, e, bs_eq tx, bs_app]
    cases m
    · rw [if_neg (by decide), if_neg (by decide), opnA_bs, bs_app]; simp [bl_bs]
    · rw [if_pos rfl, if_pos rfl, modA_bs, bs_app, bs_app]; simp [bl_bs]
theorem jn_succ (l : List Aut) (k : Nat) (h : k < l.length) : jnA (l.take (k + 1)) = jnA (l.take k) ++ ((if 0 < k then [44] else []) ++ hexT l[k].toList) := by
  rw [List.take_succ_eq_append_getElem h]
  unfold jnA
  rw [List.map_append]
  by_cases hk : 0 < k
  · rw [if_pos hk]
    have hne : (l.take k).map (fun a => hexT a.toList) ≠ [] := by
      intro e
      have := congrArg List.length e
      rw [List.length_map, List.length_take] at this
      have h0 : ([] : List Str).length = 0 := rfl
      rw [h0] at this; omega
    rw [show [l[k]].map (fun a => hexT a.toList) = [hexT l[k].toList] from rfl, join_appc 44 _ _ hne (by simp), Lib.join_one]
    simp
  · obtain rfl : k = 0 := by omega
    rw [if_neg hk]
    simp [Lib.join]
theorem jnA_len (l : List Aut) (k : Nat) (hk : k ≤ l.length) : (jnA (l.take k)).length ≤ 33 * k := by
  induction k with
  | zero => simp [jnA, Lib.join]
  | succ k ih =>
    rw [jn_succ l k (by omega), List.length_append, List.length_append, hexT_len]
    have := ih (by omega)
    have h2 : (if 0 < k then ([44] : Str) else []).length ≤ 1 := by split <;> simp
    have h3 : (l[k]'(by omega)).toList.length = 16 := by simp
    omega
theorem empty_facts {tx : ByteArray} (h : tx = ⟨#[]⟩) : tx.toList = [] ∧ tx.toList.isEmpty = true := by
  have e : tx.toList = [] := by rw [bl_toList, h]; rfl
  exact ⟨e, by rw [e]; rfl⟩
theorem full_facts {tx : ByteArray} (h : tx ≠ ⟨#[]⟩) : ¬ tx.toList = [] ∧ tx.toList.isEmpty = false := by
  have : ¬ tx.toList = [] := fun e => h (bl_inj (by rw [← bl_toList, e]; rfl))
  exact ⟨this, by simpa using this⟩
set_option maxRecDepth 100000 in
set_option maxHeartbeats 4000000 in
theorem refPrint3 (t : Id) (g : ByteArray) (n : Nat) (m : Bool) (l : List Aut) (tx : ByteArray) (nu ht : Int) (r : Aut) (v : Value) (w : World) (hv : AutsAt w v l) (hg80 : g.size ≤ 80) (hn : n ≤ 1000000) (hl8 : l.length ≤ 8) (htx : tx.size ≤ 200) (hc : Calls Tryz.prog 18 #[.agg (cmC ⟨3, t, g, (n : Int), m, l, tx, nu, ht, r⟩ v).toArray] (w.alloc (.cells (cmC ⟨3, t, g, (n : Int), m, l, tx, nu, ht, r⟩ v).toArray 26)) fun e w' => e = .returned (.int .i64 0) ∧ Gr (w.alloc (.cells (cmC ⟨3, t, g, (n : Int), m, l, tx, nu, ht, r⟩ v).toArray 26)) w') :
    Calls Tryz.prog 16 #[.agg (cmC ⟨3, t, g, (n : Int), m, l, tx, nu, ht, r⟩ v).toArray] w fun e w' => e = .returned (.tuple #[.string (bs (printS ⟨3, t, g, (n : Int), m, l, tx, nu, ht, r⟩)), .int .i64 0]) ∧ Gr w w' := by
  obtain ⟨a, cap, hva, hcap, hj⟩ := hv
  have e1 : (l.map bC).length = l.length := by simp
  rw [e1] at hva
  subst hva
  have HC := Lib.hid hc
  have hB := heap_alloc_new w (.cells (cmC ⟨3, t, g, (n : Int), m, l, tx, nu, ht, r⟩ (.slice a l.length cap)).toArray 26)
  have G0 := Lib.hid ((Gr.refl w).alloc (.cells (cmC ⟨3, t, g, (n : Int), m, l, tx, nu, ht, r⟩ (.slice a l.length cap)).toArray 26))
  have HF : Hid (∀ W, Gr (w.alloc (.cells (cmC ⟨3, t, g, (n : Int), m, l, tx, nu, ht, r⟩ (.slice a l.length cap)).toArray 26)) W → W.heap[w.heap.size]? = some (.cells (cmC ⟨3, t, g, (n : Int), m, l, tx, nu, ht, r⟩ (.slice a l.length cap)).toArray 26 (0, 0))) := fun W h => (h.block (by simp)).trans hB
  rw [e1] at hcap
  have HJ := Lib.hid hj
  have HD : Hid (∀ W, Calls Tryz.prog 37 #[.int .i64 (n : Int)] W fun e w' => e = .returned (.string (bs (Lib.decDigits n))) ∧ Gr W w') := fun W => refDecC n n (Nat.le_refl _) (by omega) W
  have HN := Lib.hid (refNameC 3)
  have HP := Lib.hid (print3 t g n m l tx nu ht r)
  obtain ⟨A, hA⟩ : ∃ A, opnA g n = A := ⟨_, rfl⟩
  obtain ⟨hA1, hA4⟩ := opnA_size g n hn
  have HA : Hid (kindS 3 ++ ⟨#[32]⟩ ++ g ++ ⟨#[32]⟩ ++ bs (Lib.decDigits n) ++ ⟨#[32, 111, 112, 101, 110]⟩ = A) := hA
  have HMA : Hid (modA g n = A.extract 0 (A.size - 4) ++ ⟨#[109, 111, 100, 101, 114, 97, 116, 101, 100, 32]⟩) := by rw [← hA]; rfl
  rw [hA] at hA1 hA4 HP
  have hz1 : (kindS 3).size = 6 := rfl
  have hz2 : (bs (Lib.decDigits n)).size ≤ 9 := by rw [bs_size']; exact dec_len 8 _ (by omega)
  generalize bs (printS ⟨3, t, g, (n : Int), m, l, tx, nu, ht, r⟩) = P at *
  generalize kindS 3 = ks at *
  generalize bs (Lib.decDigits n) = ds at *
  clear hc hB hj e1 hA
  go_enter Tryz.func16, Tryz.ntmps16
  go_wp2_with (first
    | (go_at_call 18; with_reducible refine HC.out.mono ?_; rintro e w1 ⟨rfl, hg1⟩; obtain ⟨p1, rfl⟩ := hg1.gw)
    | (go_at_call 29; with_reducible refine (HN.out _).mono ?_; rintro e w2 ⟨rfl, hg2⟩; obtain ⟨p2, rfl⟩ := ((gr_gw _ _).trans hg2).gw))
  have gA := gr_gw (w.alloc (.cells (cmC ⟨3, t, g, (n : Int), m, l, tx, nu, ht, r⟩ (.slice a l.length cap)).toArray 26)) p2
  have GA0 := Lib.hid (G0.out.trans gA)
  have HB := Lib.hid (HF.out _ gA)
  generalize gw (w.alloc (.cells (cmC ⟨3, t, g, (n : Int), m, l, tx, nu, ht, r⟩ (.slice a l.length cap)).toArray 26)) p2 = U at *
  obtain ⟨-, c33, c34, -, -, -, -, -, -, -, -, -, -, -, -, -, zU⟩ := cm_facts HB.out
  have HDC : Hid (∀ p : GD, Calls Tryz.prog 37 #[.int .i64 (n : Int)] (gw U p) fun e w'' => e = .returned (.string ds) ∧ ∃ q : GD, w'' = gw U q) := fun p => gr_call (HD.out _)
  clear gA hg1 hg2 HF HN HC HD
  refine wp_region_gr (by kernel_rfl) (by kernel_rfl) ?_
  repeat (go_big_quiet_step ((go_at_call 37; with_reducible exact HDC.out _)))
  refine wpQuiet_nil ?_
  rintro _ ⟨p, rfl⟩
  have GB := Lib.hid (GA0.out.trans (gr_gw U p))
  have HB2 := Lib.hid (((gr_gw U p).block zU).trans HB.out)
  rw [HA.out]
  generalize gw U p = V at *
  obtain ⟨-, -, -, c35, c36, c37, -, -, -, -, -, -, -, -, -, -, zV⟩ := cm_facts HB2.out
  clear HB GA0 HDC c33 c34 zU hz1 hz2 HA
  have hn9 : ¬ 9223372036854775807 < A.size + 1 := by omega
  have hn8 : ¬ 9223372036854775807 < A.size + 1 + tx.size := by omega
  cases m with
  | false =>
    rw [if_neg (by decide)] at HP
    by_cases hx : tx = ⟨#[]⟩
    · obtain ⟨x1, x2⟩ := empty_facts hx
      rw [if_pos hx, app_nil] at HP
      clear hx
      go_wp2_with fail
      go_ret2
      exact ⟨by rw [HP.out]; rfl, GB.out⟩
    · obtain ⟨x1, x2⟩ := full_facts hx
      rw [if_neg hx, ← ByteArray.append_assoc] at HP
      clear hx
      go_wp2_with fail
      go_ret2
      exact ⟨by rw [HP.out]; rfl, GB.out⟩
  | true =>
    rw [if_pos rfl, HMA.out] at HP
    have k1 : (0 : Int) ≤ (A.size : Int) - 4 := by omega
    have k2 : (A.size : Int) - 4 ≤ (A.size : Int) := by omega
    have k3 : ((A.size : Int) - 4).toNat = A.size - 4 := by omega
    have k4 : (A.extract 0 (A.size - 4)).size ≤ 200 := by rw [← bl_length, bl, ByteArray.data_extract, Array.toList_extract, List.extract_eq_take_drop, List.length_take]; omega
    have w4 : IntKind.i64.wrap ((A.size : Int) - 4) = (A.size : Int) - 4 := by rw [IntKind.wrap_i64]; omega
    generalize hE : A.extract 0 (A.size - 4) = E at *
    have hn7 : ¬ 9223372036854775807 < E.size + 10 := by omega
    go_wp2_with fail
    obtain ⟨B, hB⟩ : ∃ B, E ++ ⟨#[109, 111, 100, 101, 114, 97, 116, 101, 100, 32]⟩ = B := ⟨_, rfl⟩
    have hBs : B.size ≤ 210 := by rw [← hB, ByteArray.size_append]; have : (⟨#[109, 111, 100, 101, 114, 97, 116, 101, 100, 32]⟩ : ByteArray).size = 10 := rfl; omega
    rw [hB] at HP
    have HBE := Lib.hid hB
    have HAC := Lib.hid refAuthorC
    have HJL : Hid (∀ k, k ≤ l.length → (bs (jnA (l.take k))).size ≤ 33 * k) := fun k hk => by rw [bs_size']; exact jnA_len l k hk
    have HJ0 : Hid (bs (jnA (l.take 0)) = ⟨#[]⟩) := rfl
    have HJS : Hid (∀ k (h : k < l.length), (0 < k → bs (jnA (l.take (k + 1))) = bs (jnA (l.take k)) ++ ⟨#[44]⟩ ++ bs (autT l[k])) ∧ (¬ 0 < k → bs (jnA (l.take (k + 1))) = bs (autT l[k]))) := fun k h => by
      have e : (⟨#[44]⟩ : ByteArray) = bs [44] := rfl
      rw [jn_succ l k h]
      refine ⟨fun hk => ?_, fun hk => ?_⟩
      · rw [if_pos hk, e, bs_app, bs_app, List.append_assoc]; rfl
      · obtain rfl : k = 0 := by omega
        rfl
    have HJT : Hid (bs (jnA (l.take l.length)) = bs (jnA l)) := by show _ = _; rw [List.take_length]
    clear hB hn7 k1 k2 k3 k4 w4 hE c35 c36 c37 hA1 hA4 hn9 hn8
    rw [HBE.out]
    go_loopw [5, 6, 84, 85, 86, 87, 88, 89, 90, 91, 92, 93, 94, 95, 96, 97, 98, 99, 100, 101, 102] (fun s i _ _ _ _ _ _ _ _ _ _ _ _ _ _ _ _ _ _ _ wr => ∃ k : Nat, k ≤ l.length ∧ i = .int .i64 k ∧ s = .string (B ++ bs (jnA (l.take k))) ∧ Hid (Gr V wr)) (fun _ i _ _ _ _ _ _ _ _ _ _ _ _ _ _ _ _ _ _ _ _ => l.length - (intOf i).toNat)
    case atStart => exact ⟨0, Nat.zero_le _, rfl, by rw [HJ0.out, app_nil], Gr.refl _⟩
    case round =>
      obtain ⟨k, hk, rfl, rfl, hG⟩ := hrel
      have hb3 := (hG.out.block zV).trans HB2.out
      obtain ⟨-, -, -, -, c36, c37, -, -, -, -, -, -, -, -, -, -, zW⟩ := cm_facts hb3
      have hjl := HJL.out k hk
      have hsz : (B ++ bs (jnA (l.take k))).size ≤ 600 := by rw [ByteArray.size_append]; omega
      by_cases hlt : k < l.length
      · obtain ⟨b, o, rfl, hbz, h1, h2⟩ := HJ.out k (by rw [List.length_map]; exact hlt)
        rw [List.getElem_map] at h2
        have gW := GB.out.trans hG.out
        have r1 := (gW.hasRow hbz).trans h1
        have q1' := (gW.rowAt hbz).trans h2
        have hbw : b < wr.heap.size := Nat.lt_of_lt_of_le hbz gW.size
        have q1 : (k : Int) < (l.length : Int) := by omega
        have q2 : (0 : Int) ≤ (k : Int) := by omega
        obtain ⟨js1, js2⟩ := HJS.out k hlt
        have hau : (bs (autT l[k])).size = 32 := by rw [bs_size', autT_len]
        have HAK := Lib.hid (HAC.out l[k])
        generalize bs (autT l[k]) = au at *
        generalize l[k] = x at *
        clear h1 h2 HJL HJS HJ0 HJT hb3
        by_cases h0 : 0 < k
        · have HT : Hid (B ++ bs (jnA (l.take k)) ++ ⟨#[44]⟩ ++ au = B ++ bs (jnA (l.take (k + 1)))) := by
            show _ = _
            rw [js1 h0, ByteArray.append_assoc, ByteArray.append_assoc, ByteArray.append_assoc]
          have q3 : (0 : Int) < (k : Int) := by omega
          clear js1 js2 hjl
          generalize B ++ bs (jnA (l.take k)) = S at *
          have n1 : ¬ 9223372036854775807 < S.size + 1 := by omega
          have n2 : ¬ 9223372036854775807 < S.size + 1 + 32 := by omega
          go_wp2_with fail
          refine (HAK.out _).mono ?_
          rintro e w4 ⟨rfl, hg4⟩
          have G4 := Lib.hid (hG.out.trans hg4)
          clear hg4
          go_wp2_with fail
          go_roundw
          case rel => exact ⟨k + 1, by omega, by go_num, congrArg Value.string HT.out, G4.out⟩
          case measure => simp [intOf]; omega
        · have HT : Hid (B ++ bs (jnA (l.take k)) ++ au = B ++ bs (jnA (l.take (k + 1)))) := by
            show _ = _
            obtain rfl : k = 0 := by omega
            rw [js2 h0]
            have e : bs (jnA (l.take 0)) = ⟨#[]⟩ := rfl
            rw [e, app_nil]
          have q3 : ¬ (0 : Int) < (k : Int) := by omega
          clear js1 js2 hjl
          generalize B ++ bs (jnA (l.take k)) = S at *
          have n1 : ¬ 9223372036854775807 < S.size + 32 := by omega
          go_wp2_with fail
          refine (HAK.out _).mono ?_
          rintro e w4 ⟨rfl, hg4⟩
          have G4 := Lib.hid (hG.out.trans hg4)
          clear hg4
          go_wp2_with fail
          go_roundw
          case rel => exact ⟨k + 1, by omega, by go_num, congrArg Value.string HT.out, G4.out⟩
          case measure => simp [intOf]; omega
      · have q1 : ¬ (k : Int) < (l.length : Int) := by omega
        have hkn : k = l.length := by omega
        have HSE : Hid (B ++ bs (jnA (l.take k)) = B ++ bs (jnA l)) := by show _ = _; rw [hkn, HJT.out]
        rw [← HSE.out] at HP
        clear HJL HJS HJ0 HJT hb3 hjl hkn HSE
        generalize B ++ bs (jnA (l.take k)) = S at *
        have n1 : ¬ 9223372036854775807 < S.size + 1 := by omega
        have n2 : ¬ 9223372036854775807 < S.size + 1 + tx.size := by omega
        by_cases hx : tx = ⟨#[]⟩
        · obtain ⟨x1, x2⟩ := empty_facts hx
          rw [if_pos hx, app_nil] at HP
          clear hx
          go_wp2_with fail
          go_ret2
          exact ⟨by rw [HP.out]; rfl, GB.out.trans hG.out⟩
        · obtain ⟨x1, x2⟩ := full_facts hx
          rw [if_neg hx, ← ByteArray.append_assoc] at HP
          clear hx
          go_wp2_with fail
          go_ret2
          exact ⟨by rw [HP.out]; rfl, GB.out.trans hG.out⟩
end Go.Proofs.YtcdcmohccbhchaaGreatDoor

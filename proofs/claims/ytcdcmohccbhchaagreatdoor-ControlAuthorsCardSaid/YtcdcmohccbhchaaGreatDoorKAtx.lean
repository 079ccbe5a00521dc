/- Authors' texts: the reference's Author. -/
import Derived.Test.YtcdcmohccbhchaaGreatDoorKCod
import Derived.Test.YtcdcmohccbhchaaGreatDoorKDig
import Derived.Test.YtcdcmohccbhchaaGreatDoorKBld
namespace Go.Proofs.YtcdcmohccbhchaaGreatDoor
open Go.RowKit

theorem bC_at {n : Nat} (x : Vector UInt8 n) (k : Nat) (h : k < n) : (bC x)[k]? = some (.int .u8 (x[k].toNat : Int)) := by simp [bC, h]
theorem hexT_take (l : List UInt8) (k : Nat) (h : k < l.length) : hexT (l.take (k + 1)) = hexT (l.take k) ++ [hexD (l[k].toNat / 16), hexD (l[k].toNat % 16)] := by
  rw [List.take_succ_eq_append_getElem h]; unfold hexT; rw [List.flatMap_append]; rfl
theorem bs_app (a b : Str) : bs a ++ bs b = bs (a ++ b) := by
  apply ByteArray.ext; simp [bs]
theorem dig_fin : ∀ q : Fin 16, (⟨#[48, 49, 50, 51, 52, 53, 54, 55, 56, 57, 97, 98, 99, 100, 101, 102]⟩ : ByteArray).extract q.val (q.val + 1) = bs [hexD q.val] := by decide +kernel
theorem dig_ext (q : Nat) (h : q < 16) : (⟨#[48, 49, 50, 51, 52, 53, 54, 55, 56, 57, 97, 98, 99, 100, 101, 102]⟩ : ByteArray).extract q (q + 1) = bs [hexD q] := dig_fin ⟨q, h⟩
set_option maxRecDepth 100000 in
set_option maxHeartbeats 2000000 in
theorem refAuthorC (a : Aut) (w : World) : Calls Tryz.prog 27 #[.agg (bC a).toArray] w fun e w' => e = .returned (.string (bs (autT a))) ∧ Gr w w' := by
  have HB := Lib.hid (And.intro ((Gr.refl w).alloc (.cells (bC a).toArray 24)) (heap_alloc_new w (.cells (bC a).toArray 24)))
  go_enter Tryz.func27, Tryz.ntmps27
  go_wp2_with fail
  go_loopw [4, 5, 6, 7, 8, 9, 10, 11, 12, 13, 14, 15, 16, 17, 18, 19, 20, 21, 22, 23, 24, 25, 26, 27, 28, 29, 30, 31, 32, 33, 34] (fun s i _ _ _ _ _ _ _ _ _ _ _ _ _ _ _ _ _ _ _ _ _ _ _ _ _ _ _ _ _ wr => ∃ k : Nat, k ≤ 16 ∧ i = .int .i64 k ∧ s = .string (bs (hexT (a.toList.take k))) ∧ Hid (Gr w wr) ∧ Hid (wr.heap[w.heap.size]? = some (.cells (bC a).toArray 24 (0, 0)))) (fun _ i _ _ _ _ _ _ _ _ _ _ _ _ _ _ _ _ _ _ _ _ _ _ _ _ _ _ _ _ _ _ => 16 - (intOf i).toNat)
  case atStart => exact ⟨0, Nat.zero_le _, rfl, rfl, HB.out.1, HB.out.2⟩
  case round =>
    obtain ⟨k, hk, rfl, rfl, hG, hB⟩ := hrel
    by_cases hlt : k < 16
    · have hk1 : (k : Int) < 16 := by omega
      have hk2 : (0 : Int) ≤ (k : Int) := by omega
      have c0 := (cell_block hB.out k).trans (bC_at a k hlt)
      have HT : Hid (bs (hexT (a.toList.take k)) ++ bs [hexD (a[k].toNat / 16)] ++ bs [hexD (a[k].toNat % 16)] = bs (hexT (a.toList.take (k + 1)))) := by
        show _ = _
        rw [hexT_take a.toList k (by simpa using hlt), bs_app, bs_app, List.append_assoc]; rfl
      have hx := a[k].toNat_lt
      generalize a[k].toNat = x at *
      have hsz : (bs (hexT (a.toList.take k))).size ≤ 32 := by
        show (hexT (a.toList.take k)).toArray.size ≤ 32
        rw [List.size_toArray, hexT_len, List.length_take]; omega
      generalize bs (hexT (a.toList.take k)) = s at *
      obtain ⟨q, hq, hq16, hqx⟩ : ∃ q : Nat, (x : Int) / 16 = (q : Int) ∧ q < 16 ∧ x / 16 = q := ⟨x / 16, by omega, by omega, rfl⟩
      obtain ⟨r, hr, hr16, hrx⟩ : ∃ r : Nat, (x : Int) % 16 = (r : Int) ∧ r < 16 ∧ x % 16 = r := ⟨x % 16, by omega, by omega, rfl⟩
      rw [hqx, hrx] at HT
      have E1 := dig_ext q hq16
      have E2 := dig_ext r hr16
      have z1 : (bs [hexD q]).size = 1 := rfl
      have z2 : (bs [hexD r]).size = 1 := rfl
      generalize bs [hexD q] = d1 at *
      generalize bs [hexD r] = d2 at *
      clear hqx hrx
      have n1 : ¬ 9223372036854775807 < s.size + 1 := by omega
      have n2 : ¬ 9223372036854775807 < s.size + 1 + 1 := by omega
      have w1 : IntKind.u8.wrap (q : Int) = (q : Int) := by rw [IntKind.wrap_u8]; omega
      have w2 : IntKind.u8.wrap ((q : Int) + 1) = (q : Int) + 1 := by rw [IntKind.wrap_u8]; omega
      have w3 : IntKind.u8.wrap (r : Int) = (r : Int) := by rw [IntKind.wrap_u8]; omega
      have w4 : IntKind.u8.wrap ((r : Int) + 1) = (r : Int) + 1 := by rw [IntKind.wrap_u8]; omega
      have t2 : ((q : Int) + 1).toNat = q + 1 := by omega
      have t4 : ((r : Int) + 1).toNat = r + 1 := by omega
      have b1 : (0 : Int) ≤ (q : Int) + 1 := by omega
      have b2 : (q : Int) + 1 ≤ 16 := by omega
      have b3 : (0 : Int) ≤ (r : Int) + 1 := by omega
      have b4 : (r : Int) + 1 ≤ 16 := by omega
      have b5 : (q : Int) ≤ (q : Int) + 1 := by omega
      have b6 : (r : Int) ≤ (r : Int) + 1 := by omega
      go_wp2_with fail
      go_quiet (fail)
      go_wp2_with fail
      go_roundw
      case rel => exact ⟨k + 1, by omega, by go_num, congrArg Value.string HT.out, hG.out.drewN _, hB.out⟩
      case measure => simp [intOf]; omega
    · have hk1 : ¬ (k : Int) < 16 := by omega
      have he : Hid (bs (hexT (a.toList.take k)) = bs (autT a)) := by show _ = _; rw [List.take_of_length_le (by simp; omega)]; rfl
      go_wp2_with fail
      go_ret
      exact ⟨by rw [← he.out]; rfl, hG.out⟩
end Go.Proofs.YtcdcmohccbhchaaGreatDoor

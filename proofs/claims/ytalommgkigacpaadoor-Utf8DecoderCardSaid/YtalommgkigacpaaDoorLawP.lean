/- The walk of the law Utf8Pieces: it returns true, and nothing that was there turns. -/
import Derived.Test.YtalommgkigacpaaDoorPiece
namespace Go.Proofs.YtalommgkigacpaaDoor
open Go.RowKit

/-- A slice of bytes that came in. -/
def BytesIn (w : World) (a : Option Addr) (len : Nat) : Prop := ∀ j, j < len → ∃ blk off, a = some ⟨blk, off, none⟩ ∧ blk < w.heap.size ∧ ∃ c : Int, 0 ≤ c ∧ c ≤ 255 ∧ w.cell? ⟨blk, off + j, none⟩ = some (.int .u8 c)
theorem bl_app2 (a b : ByteArray) : bl (a ++ b) = bl a ++ bl b := by unfold bl; simp
theorem bl_emp : bl ByteArray.empty = [] := rfl

set_option maxHeartbeats 1000000 in
set_option maxRecDepth 100000 in
theorem utf8Pieces_bad (s s1 : ByteArray) (a : Option Addr) (len cap : Nat) (w : World) (hT : Tab w) (hs : s.size ≤ 140737488351232) (h1 : Hid (shortB s 200 = s1)) (z1 : s1.size ≤ 200) (E1 : Hid ((errOf (bl s1) == 0) = false)) :
    Calls Tryd.prog 11 #[.string s, .slice a len cap] w fun e w' => e = .returned (.bool true) ∧ Gr w w' := by
  have T0 := Lib.hid hT
  clear hT
  go_enter Tryd.func11, Tryd.ntmps11
  go_wp2_with fail
  refine (short_any s 200 _ hs (by decide)).mono ?_
  rintro e w' ⟨rfl, rfl⟩
  rw [h1.out]
  go_wp2_with fail
  refine (known_any _ T0.out).mono ?_
  rintro e w1 ⟨rfl, hg1⟩
  have T1 := Lib.hid (T0.out.gr hg1)
  go_wp2_with fail
  refine (valid_any s1 _ (by omega)).mono ?_
  rintro e w2 ⟨rfl, hg2⟩
  rw [E1.out]
  have T2 := Lib.hid (T1.out.gr hg2)
  go_wp2_with fail
  refine (known_any _ T2.out).mono ?_
  rintro e w3 ⟨rfl, hg3⟩
  go_wp2_with fail
  go_ret
  exact ⟨rfl, (hg1.trans hg2).trans hg3⟩

set_option maxHeartbeats 4000000 in
set_option maxRecDepth 100000 in
theorem utf8Pieces_good (s s1 : ByteArray) (a : Option Addr) (len cap : Nat) (w : World) (hT : Tab w) (hs : s.size ≤ 140737488351232) (h1 : Hid (shortB s 200 = s1)) (z1 : s1.size ≤ 200) (E1 : Hid (errOf (bl s1) = 0)) (_hlen : len ≤ 9223372036854775807) (hin : BytesIn w a len) :
    Calls Tryd.prog 11 #[.string s, .slice a len cap] w fun e w' => e = .returned (.bool true) ∧ Gr w w' := by
  have T0 := Lib.hid hT
  have HIN := Lib.hid hin
  clear hT hin
  go_enter Tryd.func11, Tryd.ntmps11
  go_wp2_with fail
  refine (short_any s 200 _ hs (by decide)).mono ?_
  rintro e w' ⟨rfl, rfl⟩
  rw [h1.out]
  go_wp2_with fail
  refine (known_any _ T0.out).mono ?_
  rintro e w1 ⟨rfl, hg1⟩
  go_wp2_with fail
  refine (valid_any s1 _ (by omega)).mono ?_
  rintro e w2 ⟨rfl, hg2⟩
  rw [E1.out]
  go_wp2_with fail
  refine (newDec_any _).mono ?_
  rintro e w3 ⟨rfl, hd3, hg3⟩
  have hG3 := (hg1.trans hg2).trans hg3
  have hsz := (hg1.trans hg2).size
  have H3 := Lib.hid hd3
  generalize hb : w2.heap.size = b at *
  clear hb hd3 hg1 hg2 hg3
  go_wp2_with fail
  go_loopw [6, 7, 8, 9, 10, 11] (fun u6 u7 u8 _ _ _ wr => ∃ (al rs p : ByteArray) (k : Nat), k ≤ len ∧ u6 = .string al ∧ u7 = .string rs ∧ u8 = .int .i64 k ∧ al.size ≤ 200 ∧ rs.size ≤ 200 ∧ p.size ≤ 200 ∧ Hid (bl al ++ bl p ++ bl rs = bl s1) ∧ Hid (errOf (bl al) = 0) ∧ Hid (errOf (bl p ++ bl rs) = 0) ∧ Hid (DecAt wr b p false) ∧ Hid (Gr w wr)) (fun _ _ u8 _ _ _ _ => len - (intOf u8).toNat)
  case atStart => exact ⟨⟨#[]⟩, s1, ⟨#[]⟩, 0, Nat.zero_le _, rfl, rfl, rfl, by decide, z1, by decide, rfl, rfl, E1, H3.out, hG3⟩
  case round =>
    obtain ⟨al, rs, p, k, hk, rfl, rfl, rfl, sz1, sz2, sz3, kS, kA, kX, kD, kG⟩ := hrel
    have hlen2 : Hid ((bl al).length + (bl p).length + (bl rs).length = (bl s1).length) := by
      show _ = _; rw [← kS.out]; simp; omega
    have Hb := Lib.hid (kD.out.lt)
    by_cases c : k < len ∧ k < 40
    · obtain ⟨c1, c2⟩ := c
      obtain ⟨blk, off, rfl, hblk, cv, cv0, cv1, hcell⟩ := HIN.out k c1
      have hcw := (kG.out.cell (p := ⟨blk, off + k, none⟩) hblk).trans hcell
      clear hcell
      have hmn : (min cv (rs.size : Int)).toNat ≤ rs.size := by omega
      have hN : Hid (bl (rs.extract 0 (min cv (rs.size : Int)).toNat) = (bl rs).take (min cv (rs.size : Int)).toNat) := bl_take _ _
      have hNs := Lib.hid (take_size rs (min cv (rs.size : Int)).toNat hmn)
      have hNd := Lib.hid (bl_from rs (min cv (rs.size : Int)).toNat)
      have hNf := Lib.hid (from_size rs (min cv (rs.size : Int)).toNat)
      obtain ⟨sl, W', hcv, hgW, hback⟩ := bytes_of (rs.extract 0 (min cv (rs.size : Int)).toNat) wr
      have HBK := Lib.hid hback
      clear hback
      have kD' := Lib.hid (kD.out.gr hgW)
      have kG' := Lib.hid (kG.out.trans hgW)
      clear kD kG
      have hpf := prefix_err _ kX.out ((bl p).length + (min cv (rs.size : Int)).toNat)
      rw [List.take_append, List.take_of_length_le (l := bl p) (by omega), Nat.add_sub_cancel_left, ← hN.out, ← bl_app2] at hpf
      go_wp2_with fail
      generalize hq : (min cv (rs.size : Int)).toNat = m at *
      have HQ := Lib.hid hq
      clear hq
      have hall : Hid (bl (p ++ rs.extract 0 m) ++ (bl rs).drop m = bl p ++ bl rs) := by
        show _ = _; rw [bl_app2, hN.out, List.append_assoc, List.take_append_drop]
      rcases hpf with h0 | h23
      · refine (write_0 b p _ sl W' kD'.out HBK.out (by omega) (by rw [hNs.out]; omega) _ rfl h0).mono ?_
        rintro e w4 ⟨rfl, hd4, hb4⟩
        have hD4 := Lib.hid hd4
        have kG4 := Lib.hid (kG'.out.trans' (hb4.mono (by omega)))
        clear hd4 hb4
        have hsz5 : Hid ((p ++ rs.extract 0 m).size = p.size + m) := by show _ = _; rw [ByteArray.size_append, hNs.out]
        generalize ho : p ++ rs.extract 0 m = o at *
        clear ho
        have kX' : Hid (errOf ((bl rs).drop m) = 0) := by
          have := kX.out; rw [← hall.out, err_append _ _ h0] at this; exact this
        have H0 := Lib.hid h0
        clear h0
        have os : o.size ≤ 400 := by rw [hsz5.out]; omega
        go_wp2_with fail
        go_quiet (fail)
        go_wp2_with fail
        go_roundw
        case rel =>
          have l1 := hlen2.out
          have l2 := hsz5.out
          rw [bl_length, bl_length, bl_length, bl_length] at l1
          refine ⟨al ++ o, rs.extract m rs.size, ByteArray.empty, k + 1, by omega, rfl, by rw [HQ.out], by go_num, by rw [ByteArray.size_append]; omega, by rw [hNf.out]; omega, by decide, ?_, ?_, ?_, hD4.out, kG4.out.drewN _⟩
          · show _ = _; rw [bl_app2, bl_emp, List.append_nil, hNd.out, List.append_assoc, hall.out, ← List.append_assoc]; exact kS.out
          · show _ = _; rw [bl_app2, err_append _ _ kA.out]; exact H0.out
          · show _ = _; rw [bl_emp, List.nil_append, hNd.out]; exact kX'.out
        case measure => simp [intOf]; omega
      · have hAle : atOf 0 (bl (p ++ rs.extract 0 m)) ≤ p.size + (rs.extract 0 m).size := by
          have := atOf_le (bl (p ++ rs.extract 0 m)) 0; rw [bl_length, ByteArray.size_append] at this; omega
        refine (write_23 b p _ sl W' kD'.out HBK.out (by omega) (by rw [hNs.out]; omega) _ rfl h23 hAle).mono ?_
        rintro e w4 ⟨rfl, hd4, hb4⟩
        have hD4 := Lib.hid hd4
        have kG4 := Lib.hid (kG'.out.trans' (hb4.mono (by omega)))
        clear hd4 hb4
        have hsz5 : Hid ((p ++ rs.extract 0 m).size = p.size + m) := by show _ = _; rw [ByteArray.size_append, hNs.out]
        have hcut := cut_valid _ (show errOf (bl (p ++ rs.extract 0 m)) ≠ 0 by rw [h23]; decide)
        rw [← bl_take] at hcut
        have hdr : Hid (bl ((p ++ rs.extract 0 m).extract (atOf 0 (bl (p ++ rs.extract 0 m))) (p.size + (rs.extract 0 m).size)) = (bl (p ++ rs.extract 0 m)).drop (atOf 0 (bl (p ++ rs.extract 0 m)))) := by
          have := bl_from (p ++ rs.extract 0 m) (atOf 0 (bl (p ++ rs.extract 0 m))); rw [ByteArray.size_append] at this; exact this
        have hts := Lib.hid (take_size (p ++ rs.extract 0 m) (atOf 0 (bl (p ++ rs.extract 0 m))) (by rw [ByteArray.size_append]; exact hAle))
        have htk := Lib.hid (bl_take (p ++ rs.extract 0 m) (atOf 0 (bl (p ++ rs.extract 0 m))))
        have hps : Hid (((p ++ rs.extract 0 m).extract (atOf 0 (bl (p ++ rs.extract 0 m))) (p.size + (rs.extract 0 m).size)).size = p.size + m - atOf 0 (bl (p ++ rs.extract 0 m))) := by
          have := from_size (p ++ rs.extract 0 m) (atOf 0 (bl (p ++ rs.extract 0 m))); rw [ByteArray.size_append, hNs.out] at this; rw [hNs.out]; exact this
        rw [hNs.out] at hAle
        generalize atOf 0 (bl (p ++ rs.extract 0 m)) = A at *
        generalize hpp : (p ++ rs.extract 0 m).extract A (p.size + (rs.extract 0 m).size) = pp at *
        clear hpp
        generalize ho : p ++ rs.extract 0 m = o at *
        clear ho h23
        have hsplit : Hid (bl (o.extract 0 A) ++ bl pp = bl o) := by
          show _ = _; rw [htk.out, hdr.out, List.take_append_drop]
        have kX' : Hid (errOf (bl pp ++ (bl rs).drop m) = 0) := by
          have := kX.out
          rw [← hall.out, ← hsplit.out, List.append_assoc, err_append _ _ hcut] at this
          exact this
        have H0 := Lib.hid hcut
        clear hcut
        have os : (o.extract 0 A).size ≤ 400 := by rw [hts.out]; omega
        generalize ho2 : o.extract 0 A = o2 at *
        clear ho2
        go_wp2_with fail
        go_quiet (fail)
        go_wp2_with fail
        go_roundw
        case rel =>
          have l1 := hlen2.out
          have l2 := hsz5.out
          have l3 := hts.out
          have l4 := hps.out
          rw [bl_length, bl_length, bl_length, bl_length] at l1
          refine ⟨al ++ o2, rs.extract m rs.size, pp, k + 1, by omega, rfl, by rw [HQ.out], by go_num, by rw [ByteArray.size_append]; omega, by rw [hNf.out]; omega, by omega, ?_, ?_, ?_, hD4.out, kG4.out.drewN _⟩
          · show _ = _
            rw [bl_app2, hNd.out]
            have e1 : bl al ++ bl o2 ++ bl pp ++ (bl rs).drop m = bl al ++ ((bl o2 ++ bl pp) ++ (bl rs).drop m) := by simp [List.append_assoc]
            rw [e1, hsplit.out, hall.out, ← List.append_assoc]; exact kS.out
          · show _ = _; rw [bl_app2, err_append _ _ kA.out]; exact H0.out
          · show _ = _; rw [hNd.out]; exact kX'.out
        case measure => simp [intOf]; omega
    · have c' : (decide (k < len) && decide (k < 40)) = false := by
        rw [Bool.eq_false_iff]; simp only [ne_eq, Bool.and_eq_true, decide_eq_true_eq]; exact c
      obtain ⟨sl, W', hcv, hgW, hback⟩ := bytes_of rs wr
      have HBK := Lib.hid hback
      clear hback
      have kD' := Lib.hid (kD.out.gr hgW)
      have kG' := Lib.hid (kG.out.trans hgW)
      clear kD kG
      have h0 : errOf (bl (p ++ rs)) = 0 := by rw [bl_app2]; exact kX.out
      have H0 := Lib.hid h0
      clear h0
      by_cases c1 : k < len
      · have c2 : ¬ k < 40 := fun h => c ⟨c1, h⟩
        clear c
        go_wp2_with fail
        refine (write_0 b p rs sl W' kD'.out HBK.out (by omega) (by omega) _ rfl H0.out).mono ?_
        rintro e w4 ⟨rfl, hd4, hb4⟩
        have hD4 := Lib.hid hd4
        have kG4 := Lib.hid (kG'.out.trans' (hb4.mono (by omega)))
        clear hd4 hb4
        have hfin : al ++ (p ++ rs) = s1 := by
          apply bl_inj; rw [bl_app2, bl_app2, ← List.append_assoc]; exact kS.out
        have HF := Lib.hid hfin
        have hos : (p ++ rs).size ≤ 400 := by rw [ByteArray.size_append]; omega
        clear hfin
        generalize p ++ rs = o at *
        have e1 := HF.out
        subst e1
        go_wp2_with fail
        refine (close_ok b _ _ hD4.out (by rw [bl_toList]; rfl) (by rw [bl_toList]; rfl)).mono ?_
        rintro e w5 ⟨rfl, _, hb5⟩
        go_wp2_with fail
        go_ret
        exact ⟨rfl, kG4.out.trans' (hb5.mono (by omega))⟩
      · clear c
        go_wp2_with fail
        refine (write_0 b p rs sl W' kD'.out HBK.out (by omega) (by omega) _ rfl H0.out).mono ?_
        rintro e w4 ⟨rfl, hd4, hb4⟩
        have hD4 := Lib.hid hd4
        have kG4 := Lib.hid (kG'.out.trans' (hb4.mono (by omega)))
        clear hd4 hb4
        have hfin : al ++ (p ++ rs) = s1 := by
          apply bl_inj; rw [bl_app2, bl_app2, ← List.append_assoc]; exact kS.out
        have HF := Lib.hid hfin
        have hos : (p ++ rs).size ≤ 400 := by rw [ByteArray.size_append]; omega
        clear hfin
        generalize p ++ rs = o at *
        have e1 := HF.out
        subst e1
        go_wp2_with fail
        refine (close_ok b _ _ hD4.out (by rw [bl_toList]; rfl) (by rw [bl_toList]; rfl)).mono ?_
        rintro e w5 ⟨rfl, _, hb5⟩
        go_wp2_with fail
        go_ret
        exact ⟨rfl, kG4.out.trans' (hb5.mono (by omega))⟩

theorem utf8Pieces_walk (s : ByteArray) (a : Option Addr) (len cap : Nat) (w : World) (hT : Tab w) (hs : s.size ≤ 140737488351232) (hlen : len ≤ 9223372036854775807) (hin : BytesIn w a len) :
    Calls Tryd.prog 11 #[.string s, .slice a len cap] w fun e w' => e = .returned (.bool true) ∧ Gr w w' := by
  have z1 : (shortB s 200).size ≤ 200 := by rw [shortB_size]; omega
  by_cases e1 : errOf (bl (shortB s 200)) = 0
  · exact utf8Pieces_good s _ a len cap w hT hs rfl z1 e1 hlen hin
  · exact utf8Pieces_bad s _ a len cap w hT hs rfl z1 (by simpa using e1 : (errOf (bl (shortB s 200)) == 0) = false)
end Go.Proofs.YtalommgkigacpaaDoor

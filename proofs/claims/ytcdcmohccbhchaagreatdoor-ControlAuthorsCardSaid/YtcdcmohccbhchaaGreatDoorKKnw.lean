/- The statement's example holds. -/
import Derived.Test.YtcdcmohccbhchaaGreatDoorKPrs
import Derived.Test.YtcdcmohccbhchaaGreatDoorKPr3
namespace Go.Proofs.YtcdcmohccbhchaaGreatDoor
open Go.RowKit

set_option maxRecDepth 100000 in
set_option maxHeartbeats 1000000 in
theorem modeOpenC (c : Cm) (v : Value) (w : World) (h : c.moderated = false) : Calls Tryz.prog 33 #[.agg (cmC c v).toArray] w fun e w' => e = .returned (.string (modeS c)) ∧ Gr w w' := by
  have hm : modeS c = ⟨#[111, 112, 101, 110]⟩ := by unfold modeS; rw [h]; rfl
  have HM := Lib.hid hm
  clear hm
  go_enter Tryz.func33, Tryz.ntmps33
  go_wp2_with fail
  go_ret
  exact ⟨by rw [HM.out]; rfl, (Gr.refl w).alloc _⟩
def gS : ByteArray := ⟨#[114, 101, 99, 46, 98, 111, 97, 116, 115]⟩
def tS : ByteArray := ⟨#[83, 97, 105, 108, 105, 110, 103]⟩
def cK : Cm := ⟨3, zId, gS, 2, false, [], tS, 0, 0, zAut⟩
def pS : ByteArray := ⟨#[114, 101, 109, 111, 118, 101, 32, 114, 101, 99, 46, 98, 111, 97, 116, 115, 32, 51]⟩
theorem cK_ok : cmErr cK = 0 := by decide +kernel
theorem cK_len : (printS cK).length ≤ 1000000 := by decide +kernel
theorem cK_text : (printS cK) = [100, 101, 102, 105, 110, 101, 32, 114, 101, 99, 46, 98, 111, 97, 116, 115, 32, 50, 32, 111, 112, 101, 110, 32, 83, 97, 105, 108, 105, 110, 103] := by decide +kernel
theorem cK_print (w : World) (hE : Env w) : Calls Tryz.prog 14 #[.agg (cmC cK nilV).toArray] w fun e w' => e = .returned (.tuple #[.string ⟨#[100, 101, 102, 105, 110, 101, 32, 114, 101, 99, 46, 98, 111, 97, 116, 115, 32, 50, 32, 111, 112, 101, 110, 32, 83, 97, 105, 108, 105, 110, 103]⟩, .int .i64 0]) ∧ Gr w w' := by
  have h := print3C zId gS 2 false [] tS 0 0 zAut nilV w hE (nil_auts w) (by simp) (by decide +kernel) cK_ok (itoa_small (n := 2) (by decide)) (fun U _ => modeOpenC _ _ U rfl) cK_len
  have e : bs (printS cK) = ⟨#[100, 101, 102, 105, 110, 101, 32, 114, 101, 99, 46, 98, 111, 97, 116, 115, 32, 50, 32, 111, 112, 101, 110, 32, 83, 97, 105, 108, 105, 110, 103]⟩ := by rw [cK_text]; rfl
  rw [← e]
  exact h
def wK : List Str := [[114, 101, 99, 46, 98, 111, 97, 116, 115], [51]]
theorem pS_split : splitL 32 (bl pS) = [114, 101, 109, 111, 118, 101] :: wK := by decide +kernel
def rK : PS × Cm := read4 18 ⟨0, 6, wK, 0, 0⟩
theorem rK_fin : finP 18 rK = (⟨4, zId, gS, 3, false, [], ⟨#[]⟩, 0, 0, zAut⟩, 0, 0) := by decide +kernel
theorem pS_parse (w : World) (hE : Env w) : Calls Tryz.prog 19 #[.string pS] w (PrPost (⟨4, zId, gS, 3, false, [], ⟨#[]⟩, 0, 0, zAut⟩, 0, 0) w) := by
  have hb : 1 < w.heap.size := by obtain ⟨m, hm⟩ := hE; exact World.block_lt_of_cell? w _ hm
  have h := parseC pS w 3 [114, 101, 109, 111, 118, 101] wK rK pS_split rfl (by decide +kernel) hE hb (by decide +kernel) (fun U b hg hbU hP => form4C b pS _ U hP (PSok.start pS_split) (by decide +kernel) (hE.gr hg) (by omega))
  have e : finP pS.size rK = (⟨4, zId, gS, 3, false, [], ⟨#[]⟩, 0, 0, zAut⟩, 0, 0) := rK_fin
  rw [e] at h
  exact h
set_option maxRecDepth 100000 in
set_option maxHeartbeats 1000000 in
theorem knownC (w : World) (hE : Env w) : Calls Tryz.prog 12 #[] w fun e w' => e = .returned (.bool true) ∧ Gr w w' := by
  have HP := Lib.hid (cK_print w hE)
  have HE := Lib.hid hE
  clear hE
  go_enter Tryz.func12, Tryz.ntmps12
  go_wp2_with fail
  refine HP.out.mono ?_
  rintro e w1 ⟨rfl, hg1⟩
  have HG1 := Lib.hid hg1
  have HS := Lib.hid (pS_parse w1 (HE.out.gr hg1))
  clear hg1
  go_wp2_with fail
  refine HS.out.mono ?_
  rintro e w2 ⟨v, rfl, hv, hg2⟩
  have HG2 := Lib.hid (HG1.out.trans hg2)
  obtain ⟨a, n, rfl, _⟩ := hv
  clear hg2
  go_wp2_with fail
  go_ret
  exact ⟨rfl, HG2.out.alloc _⟩
end Go.Proofs.YtcdcmohccbhchaaGreatDoor

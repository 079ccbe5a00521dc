/- CancelOf: for every input the law returns true and each argument reads as it did; what the listed tables hold is tied to the program's text. -/
import Derived.Test.YtcjacgjeiljfgaaGreatDoorCards
import Derived.Test.YtcjacgjeiljfgaaGreatDoorTie
import Derived.Test.YtcjacgjeiljfgaaGreatDoorOWOf
import Derived.Test.YtcjacgjeiljfgaaGreatDoorBF
import Derived.Test.YtcjacgjeiljfgaaGreatDoorBO
import Derived.ProofKit
import Derived.OpenShut
import Derived.ShutString
import Derived.ChangeOld
import Derived.Carry
import Derived.Deep.DeepHandedRow
import Derived.Lib.LaidTab
namespace Go.Proofs.YtcjacgjeiljfgaaGreatDoor.cancelOf
open Go.ChangeShapes Go.WideShapes Go.ChangeAt Go.RowKit

def zJ : List Value := List.replicate 32 (.int .u8 0)
def zT : List Value := .string ⟨#[]⟩ :: (List.replicate 16 (.int .u8 0) ++ (.int .i64 0 :: .slice none 0 0 :: .string ⟨#[]⟩ :: .slice none 0 0 :: (List.replicate 32 (.int .u8 0) ++ (.string ⟨#[]⟩ :: .string ⟨#[]⟩ :: .int .i64 0 :: .int .i64 0 :: (List.replicate 16 (.int .u8 0) ++ [.int .i64 0, .string ⟨#[]⟩])))))
def zBd {H : Type} (n : Nat) : DataW H := .agg (List.replicate n (.lit (.int .u8 0)))
def zTd {H : Type} : DataW H := .agg [.lit (.string []), zBd 16, .lit (.int .i64 0), .nil, .lit (.string []), .nil, zBd 32, .lit (.string []), .lit (.string []), .lit (.int .i64 0), .agg [.lit (.int .i64 0), zBd 16], .lit (.int .i64 0), .lit (.string [])]
theorem okWide_array {P : Program} {w : World} {r : Reach} {base : Nat} {t : TypeId} {v : Value} {n : Nat} {e : TypeId} (ht : P.underlying t = some (.array n e)) (h : Value.okWide P w r base t v) : ∃ cs, v = .agg cs := by
  simp only [Value.okWide, ht] at h
  obtain ⟨cs, h1, _⟩ := h
  exact ⟨cs, h1⟩

set_option maxRecDepth 100000 in
theorem contract (H : Type) (enc : TypeId × Value → H) (W : World) (base : Nat) (args : Array Value) (ds gs : List (DataW H)) (before : List MemPlace)
    (hval : ∀ (j : Nat) t v, Tryz.f3.params[j]? = some t → args[j]? = some v → Value.okWide Tryz.prog W .any base t v)
    (hW : DataW.Whole enc Tryz.prog Tryz.f3.params.toList Rows.cancelOfSpec.vars false W args.toList ds gs before) (hsh : W.ShapedOpen Tryz.prog) (hL : laidMetH Tryz.prog Rows.cancelOfRow.laid W) :
    Calls Tryz.prog 3 args W fun e W' => ∃ v, e = .returned v ∧ Rows.cancelOfSpec.post enc Tryz.prog Tryz.f3 false true false false W args v W' := by
  have hW' := hW
  obtain ⟨p, q, hA0, hV, rfl, hfz, hnd⟩ := hW
  have hA : DataW.TrodAll enc Tryz.prog W 0 (fun _ => true) true Tryz.f3.params.toList args.toList ds p := hA0
  rw [Tryz.params3] at hA hval
  obtain ⟨v0, vs0, d0, ds0, p0, q0, hargs, rfl, rfl, h0, r0⟩ := trodAll_cons hA
  obtain ⟨v1, vs1, d1, ds1, p1, q1, rfl, rfl, rfl, h1, r1⟩ := trodAll_cons r0
  obtain ⟨v2, vs2, d2, ds2, p2, q2, rfl, rfl, rfl, h2, r2⟩ := trodAll_cons r1
  obtain ⟨v3, vs3, d3, ds3, p3, q3, rfl, rfl, rfl, h3, r3⟩ := trodAll_cons r2
  obtain ⟨rfl, rfl, rfl⟩ := trodAll_nil r3
  obtain rfl : args = #[v0, v1, v2, v3] := by cases args; simp_all
  obtain ⟨rfl, rfl⟩ := trodVars_none hV
  have k0 := h0
  have lt0 : ∀ x ∈ p0, x.block < W.heap.size := by obtain ⟨m, hm⟩ := k0; exact DataW.trod_lt m _ _ _ hm
  have ok0 : Value.okWide Tryz.prog W .any base 23 v0 := hval 0 23 v0 rfl rfl
  obtain ⟨cs0, rfl⟩ := okWide_array Tryz.underlying23 ok0
  obtain ⟨x0, e0⟩ : ∃ x : Id, cs0 = (bC x).toArray := by
    obtain ⟨fuel, hf⟩ := h0
    obtain ⟨x, hx⟩ := vec_open Tryz.underlying23 cellsId hf
    exact ⟨x, by rw [← hx]; rfl⟩
  subst e0
  have k1 := h1
  have lt1 : ∀ x ∈ p1, x.block < W.heap.size := by obtain ⟨m, hm⟩ := k1; exact DataW.trod_lt m _ _ _ hm
  have ok1 : Value.okWide Tryz.prog W .any base 31 v1 := hval 1 31 v1 rfl rfl
  obtain ⟨cs1, rfl, _⟩ := okWide_struct Tryz.underlying31 ok1
  obtain ⟨x1, e1, g1⟩ : ∃ x, cs1 = (cttC x).toArray ∧ CttGood x := by
    obtain ⟨fuel, hf⟩ := h1
    obtain ⟨x, hx, hg⟩ := ctt_open hf
    exact ⟨x, by rw [← hx]; rfl, hg⟩
  subst e1
  have k2 := h2
  have lt2 : ∀ x ∈ p2, x.block < W.heap.size := by obtain ⟨m, hm⟩ := k2; exact DataW.trod_lt m _ _ _ hm
  have ok2 : Value.okWide Tryz.prog W .any base 23 v2 := hval 2 23 v2 rfl rfl
  obtain ⟨cs2, rfl⟩ := okWide_array Tryz.underlying23 ok2
  obtain ⟨x2, e2⟩ : ∃ x : Id, cs2 = (bC x).toArray := by
    obtain ⟨fuel, hf⟩ := h2
    obtain ⟨x, hx⟩ := vec_open Tryz.underlying23 cellsId hf
    exact ⟨x, by rw [← hx]; rfl⟩
  subst e2
  have k3 := h3
  have lt3 : ∀ x ∈ p3, x.block < W.heap.size := by obtain ⟨m, hm⟩ := k3; exact DataW.trod_lt m _ _ _ hm
  obtain ⟨x3, rfl, rfl, rfl⟩ := open_bool Tryz.underlying4 (hval 3 4 v3 rfl rfl) h3
  clear hA0
  simp only [List.append_nil] at hW'
  refine (wCancelOf x0 x1 x2 x3 W (tabs_of hL hsh) g1).mono fun e W' ⟨he, hg⟩ => ?_
  subst he
  exact ⟨_, rfl, _, _, _, [], _, [], hW', trodAll_cons_mk (shut_bool Tryz.underlying4 _) trodAll_mk0, trodAll_cons_mk (Below.trod laidOut (by kernel_rfl) (of_decide_eq_true (by kernel_rfl)) k0 hg lt0) (trodAll_cons_mk (Below.trod laidOut (by kernel_rfl) (of_decide_eq_true (by kernel_rfl)) k1 hg lt1) (trodAll_cons_mk (Below.trod laidOut (by kernel_rfl) (of_decide_eq_true (by kernel_rfl)) k2 hg lt2) (trodAll_cons_mk (Below.trod laidOut (by kernel_rfl) (of_decide_eq_true (by kernel_rfl)) k3 hg lt3) (trodAll_mk0)))), rfl, Below.frame hg _, fun h => by cases h⟩

theorem laid_met (os : Os) : laidMet Tryz.prog Rows.cancelOfRow.laid ((laidWorld os).forCall (fun _ _ => 0) ⟨#[], #[.agg zJ.toArray, .agg zT.toArray, .agg zJ.toArray, .bool false], []⟩).memory :=
  laidMet_of_run' 8 (by kernel_rfl) (by kernel_rfl)
theorem reads (os : Os) {H : Type} (enc : TypeId × Value → H) : ∃ places, DataW.whole enc Tryz.prog ((laidWorld os).forCall (fun _ _ => 0) ⟨#[], #[.agg zJ.toArray, .agg zT.toArray, .agg zJ.toArray, .bool false], []⟩).memory Tryz.f3.params.toList Rows.cancelOfSpec.vars false #[(Value.agg zJ.toArray), .agg zT.toArray, .agg zJ.toArray, .bool false].toList 8 = some ([zBd 32, zTd, zBd 32, .lit (.bool false)], [], places) :=
  ⟨[], by kernel_rfl⟩

set_option maxRecDepth 100000 in
theorem lifted (os : Os) (started : os.Started) (H : Type) (enc : TypeId × Value → H) (F : Stop.Interp) :
    ReturnsInHanded {} Tryz.checked os 3 .any ((OpenSpec.ofChange Rows.cancelOfSpec).preRow enc Tryz.prog Tryz.f3 Rows.cancelOfRow.domain false Rows.cancelOfRow.laid) (((OpenSpec.ofChange Rows.cancelOfSpec).at F).post enc Tryz.prog Tryz.f3 false true false false) := by
  obtain ⟨places, hx⟩ := reads os enc
  refine returnsInHanded_of_row (C := Tryz.checked) (s := OpenSpec.ofChange Rows.cancelOfSpec) own started (by kernel_rfl) Tryz.func3
    (witness_row_at (enc := enc) (C := Tryz.checked) false (laidWorld os) #[.agg zJ.toArray, .agg zT.toArray, .agg zJ.toArray, .bool false] rfl (by kernel_rfl) (by kernel_rfl) (by kernel_rfl)
      (OpenSpec.preRow_of_cond 8 hx (by kernel_rfl) (fun k hk => by cases hk) (by kernel_rfl) (laid_met os))) ?_
  intro W base args ds gs before hval hW _ _ _ hL hsh _
  exact contract H enc W base args ds gs before hval hW hsh hL

theorem said : Rows.CancelOfSaid :=
  OpenClaim.holds_of_cond 3 Tryz.f3 rfl rfl rfl rfl rfl rfl rfl ⟨rfl, rfl, rfl, rfl, rfl⟩ rfl rfl rfl rfl rfl (by kernel_rfl) Tryz.func3 (by kernel_rfl)
    (of_decide_eq_true (by kernel_rfl)) (by unfold Func.isWrapper; first | (rw [if_pos (by decide +kernel)]; kernel_rfl) | (rw [if_neg (by decide +kernel)]; exact ⟨rfl, rfl⟩))
    (fun os started H enc _ F => by rw [OpenClaim.pre_eq_preRow]; exact lifted os started H enc F)

/-- No parameter wants a stand-in; the looks are as the row says. -/
theorem plain (f : FuncId) (fn : Func) (hf : Tryz.pinned.checked.prog.funcNamed "bulletin/bulletinlaw40.CancelOf" = some f) (hfn : Tryz.pinned.checked.prog.funcs[f]? = some fn) :
    true = Tryz.pinned.checked.prog.looks [] ∧ ∀ (j : Nat) t, fn.params[j]? = some t → Tryz.pinned.checked.prog.wantsStandIn t = false := by
  obtain rfl : f = 3 := Option.some.inj ((show Tryz.prog.funcNamed "bulletin/bulletinlaw40.CancelOf" = some 3 by kernel_rfl).symm.trans hf) |>.symm
  obtain rfl : fn = Tryz.f3 := (Option.some.inj (Tryz.func3.symm.trans hfn)).symm
  refine ⟨by kernel_rfl, fun j t ht => ?_⟩
  rw [Tryz.params3] at ht
  have hm : t = 23 ∨ t = 31 ∨ t = 23 ∨ t = 4 := by simpa using Array.mem_of_getElem? ht
  rcases hm with rfl | rfl | rfl | rfl
  · exact (show Tryz.prog.wantsStandIn 23 = false by kernel_rfl)
  · exact (show Tryz.prog.wantsStandIn 31 = false by kernel_rfl)
  · exact (show Tryz.prog.wantsStandIn 23 = false by kernel_rfl)
  · exact (show Tryz.prog.wantsStandIn 4 = false by kernel_rfl)

/-- The card. -/
theorem card : Rows.CancelOfCardSaid :=
  Claim7.holds_tied_plain_at .later [] _ _ _ _ said (fun _ h => by cases h) (by kernel_rfl) (fun _ h => by cases h) cancelOf_row_tie rfl ⟨rfl, rfl⟩ (by kernel_rfl) rfl plain (by kernel_rfl)
end Go.Proofs.YtcjacgjeiljfgaaGreatDoor.cancelOf
namespace Go.Proofs.YtcjacgjeiljfgaaGreatDoor
/-- CancelOf: the given statement. -/
theorem cancelOf_card_holds : Rows.CancelOfCardSaid := cancelOf.card
#print axioms cancelOf_card_holds
end Go.Proofs.YtcjacgjeiljfgaaGreatDoor

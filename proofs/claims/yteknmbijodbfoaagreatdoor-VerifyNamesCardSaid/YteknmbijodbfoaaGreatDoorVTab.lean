/- What the row's list gives: the program's tables. -/
import Derived.Test.YteknmbijodbfoaaGreatDoorBZ
import Derived.Test.YteknmbijodbfoaaGreatDoorRows
import Derived.Lib.LaidTab
import Derived.LaidSub
import Derived.Shelf.Vars
namespace Go.Proofs.YteknmbijodbfoaaGreatDoor
open Go.RowKit

/-- A table of strings as a row lists it. -/
def strData {H : Type} (ss : List ByteArray) : DataW H := .agg (ss.map fun s => .lit (.string s.data.toList))
theorem ba_inj {a b : ByteArray} (h : a.data.toList = b.data.toList) : a = b := by
  cases a with | mk x => cases b with | mk y => exact congrArg ByteArray.mk (Array.toList_inj.1 h)
theorem cells_of_strs {H : Type} {enc : TypeId × Value → H} {P : Program} {w : World} {base : Nat} {sp : Nat → Bool} {held : Bool} {fuel : Nat} {t e : TypeId} {n : Nat} {cs : List Value} {ss : List ByteArray} {p : List MemPlace}
    (ht : P.underlying t = some (.array n e)) (he : P.underlying e = some .string) (hce : P.cellsOf e = 1) (hct : P.cellsOf t = n)
    (h : DataW.trod enc P w base sp held fuel t cs = some (strData ss, p)) : cs = ss.map Value.string := by
  cases fuel with
  | zero => simp [DataW.trod] at h
  | succ fuel =>
    simp only [DataW.trod, ht, hce, hct, Nat.mul_one] at h
    split at h
    · rename_i hl
      obtain ⟨xs, hm, hx⟩ := Option.map_eq_some_iff.1 h
      have h1 : xs.map (·.1) = ss.map fun s => (DataW.lit (.string s.data.toList) : DataW H) := by
        have := congrArg Prod.fst hx
        simpa [strData] using this
      have hxl : xs.length = n := by simpa using Lib.mapM_length hm
      have hsl : ss.length = n := by
        have := congrArg List.length h1
        simp only [List.length_map] at this
        omega
      refine List.ext_getElem (by rw [List.length_map]; omega) fun i i1 i2 => ?_
      rw [List.length_map] at i2
      have hin : i < n := by omega
      obtain ⟨b, hb, hf⟩ := Lib.mapM_at hm i i (by simp [hin])
      obtain ⟨s, hc, rfl, _⟩ := DataW.trod_string he hf
      have h2 := congrArg (·[i]?) h1
      simp only [List.getElem?_map, hb, Option.map_some, List.getElem?_eq_getElem i2] at h2
      have h3 : s = ss[i] := by
        injection h2 with h2
        injection h2 with h2
        injection h2 with h2
        exact ba_inj h2
      have h4 := congrArg (·[0]?) hc
      simp only [List.getElem?_take, List.getElem?_drop, Nat.add_zero] at h4
      rw [List.getElem_map, ← h3]
      simpa [i1] using h4
    · cases h
theorem strs_of_head {P : Program} {W : World} {name : String} {ss : List ByteArray} {rest : List (String × DataW Unit)} {g : Nat} {t e : TypeId} {n : Nat}
    (hg : P.globalNamed name = some g) (hty : (P.globals[g]?).map (·.type) = some t) (ht : P.underlying t = some (.array n e)) (he : P.underlying e = some .string) (hce : P.cellsOf e = 1) (hct : P.cellsOf t = n)
    (h : laidMet P ((name, strData ss) :: rest) W) (i : Nat) (s : ByteArray) (hs : ss[i]? = some s) : W.cell? ⟨g, i, none⟩ = some (.string s) := by
  obtain ⟨ps, ⟨g', t', cs, fuel, p, q, hg', ht', hvar, hd, _, _⟩, _⟩ := h
  obtain rfl := Option.some.inj (hg.symm.trans hg')
  obtain rfl := Option.some.inj (hty.symm.trans ht')
  have hcs := cells_of_strs ht he hce hct hd
  rw [World.var?_cell hg hvar i]
  have : cs[i]? = (ss.map Value.string)[i]? := by rw [← hcs, Array.getElem?_toList]
  rw [this, List.getElem?_map, hs]; rfl

def namesK : List ByteArray := [⟨#[103, 101, 110, 117, 105, 110, 101]⟩, ⟨#[117, 110, 98, 111, 117, 110, 100]⟩, ⟨#[118, 111, 105, 100]⟩, ⟨#[102, 111, 114, 103, 101, 100]⟩]
def judK : List Int := [0, 1, 2, 2]
def alphZ : List Int := b64S.map fun c => (c.toNat : Int)
def constZ : List Int := (List.range 64).map fun i => ((kN i).toNat : Int)
theorem laid_alph : (Rows.verifyNamesRow.laid.filter fun x => x.1 == "bulletin/base64.alphabet") = [("bulletin/base64.alphabet", Lib.tabData .u8 alphZ)] := by kernel_rfl
theorem laid_const : (Rows.verifyNamesRow.laid.filter fun x => x.1 == "bulletin/sha256.constants") = [("bulletin/sha256.constants", Lib.tabData .u32 constZ)] := by kernel_rfl
theorem laid_jud : (Rows.verifyNamesRow.laid.filter fun x => x.1 == "bulletin/verify.judged") = [("bulletin/verify.judged", Lib.tabData .i64 judK)] := by kernel_rfl
theorem laid_words : (Rows.verifyNamesRow.laid.filter fun x => x.1 == "bulletin/canonical.formWords") = [("bulletin/canonical.formWords", strData wordsK)] := by kernel_rfl
theorem laid_names : (Rows.verifyNamesRow.laid.filter fun x => x.1 == "bulletin/verify.names") = [("bulletin/verify.names", strData namesK)] := by kernel_rfl
theorem gAlph : Tryz.prog.globalNamed "bulletin/base64.alphabet" = some 4 := by kernel_rfl
theorem gConst : Tryz.prog.globalNamed "bulletin/sha256.constants" = some 3 := by kernel_rfl
theorem gJud : Tryz.prog.globalNamed "bulletin/verify.judged" = some 1 := by kernel_rfl
theorem gWords : Tryz.prog.globalNamed "bulletin/canonical.formWords" = some 2 := by kernel_rfl
theorem gNames : Tryz.prog.globalNamed "bulletin/verify.names" = some 0 := by kernel_rfl
theorem tyAlph : (Tryz.prog.globals[4]?).map (·.type) = some 139 := by kernel_rfl
theorem tyConst : (Tryz.prog.globals[3]?).map (·.type) = some 169 := by kernel_rfl
theorem tyJud : (Tryz.prog.globals[1]?).map (·.type) = some 89 := by kernel_rfl
theorem tyWords : (Tryz.prog.globals[2]?).map (·.type) = some 111 := by kernel_rfl
theorem tyNames : (Tryz.prog.globals[0]?).map (·.type) = some 53 := by kernel_rfl
theorem env_of {W : World} (h : W.ShapedOpen Tryz.prog) : Env W := cell_of_shapedOpen_int (P := Tryz.prog) (g := 5) (t := 3) (zero := #[.int .i64 0]) h (of_decide_eq_true (by kernel_rfl)) (by kernel_rfl) rfl (by kernel_rfl) (by kernel_rfl) Tryz.underlying3
/-- What verify's tables hold. -/
structure VTabs (w : World) : Prop where
  b : Bs w
  j : ∀ i z, judK[i]? = some z → w.cell? ⟨1, i, none⟩ = some (.int .i64 z)
  n : ∀ i s, namesK[i]? = some s → w.cell? ⟨0, i, none⟩ = some (.string s)
theorem VTabs.gr {w w' : World} (h : VTabs w) (hg : Gr w w') : VTabs w' :=
  ⟨h.b.gr hg, fun i z hz => (hg.cell (p := ⟨1, i, none⟩) (World.block_lt_of_cell? w _ (h.j i z hz))).trans (h.j i z hz), fun i s hs => (hg.cell (p := ⟨0, i, none⟩) (World.block_lt_of_cell? w _ (h.n i s hs))).trans (h.n i s hs)⟩
theorem vtabs_of {W : World} (h : laidMetH Tryz.prog Rows.verifyNamesRow.laid W) (hsh : W.ShapedOpen Tryz.prog) : VTabs W := by
  have h0 : laidMet Tryz.prog Rows.verifyNamesRow.laid W := h
  have h1 := laidMet.filter (fun x => x.1 == "bulletin/base64.alphabet") h0
  rw [laid_alph] at h1
  have h2 := laidMet.filter (fun x => x.1 == "bulletin/sha256.constants") h0
  rw [laid_const] at h2
  have h3 := laidMet.filter (fun x => x.1 == "bulletin/verify.judged") h0
  rw [laid_jud] at h3
  have h4 := laidMet.filter (fun x => x.1 == "bulletin/canonical.formWords") h0
  rw [laid_words] at h4
  have h5 := laidMet.filter (fun x => x.1 == "bulletin/verify.names") h0
  rw [laid_names] at h5
  have hE := env_of hsh
  refine ⟨⟨hE, fun i hi => ?_, fun i s hs => ?_, fun i hi => ?_, ?_⟩, fun i z hz => ?_, fun i s hs => ?_⟩
  · have ht := Lib.tabIs_of_head (rest := []) gAlph tyAlph Tryz.underlying139 Tryz.underlying5 cellsByte (by kernel_rfl) h1
    have hc := ht.cell gAlph i (by show i < alphZ.length; rw [show alphZ.length = 64 by decide]; exact hi)
    have e : ∀ j : Fin 64, alphZ.getD j.val 0 = ((b64C j.val).toNat : Int) := by decide +kernel
    have ei : alphZ.getD i 0 = ((b64C i).toNat : Int) := e ⟨i, hi⟩
    rw [ei] at hc
    exact hc
  · exact strs_of_head (rest := []) gWords tyWords Tryz.underlying111 Tryz.underlying9 (by kernel_rfl) (by kernel_rfl) h4 i s hs
  · have ht := Lib.tabIs_of_head (rest := []) gConst tyConst Tryz.underlying169 Tryz.underlying97 (by kernel_rfl) (by kernel_rfl) h2
    have hc := ht.cell gConst i (by show i < constZ.length; rw [show constZ.length = 64 by simp [constZ]]; exact hi)
    have ei : constZ.getD i 0 = ((kN i).toNat : Int) := by unfold constZ; simp [List.getD, hi]
    rw [ei] at hc
    exact hc
  · obtain ⟨m, hm⟩ := hE
    exact World.block_lt_of_cell? W _ hm
  · have ht := Lib.tabIs_of_head (rest := []) gJud tyJud Tryz.underlying89 Tryz.underlying3 (by kernel_rfl) (by kernel_rfl) h3
    have hl := (List.getElem?_eq_some_iff.1 hz).1
    have hc := ht.cell gJud i hl
    have ei : judK.getD i 0 = z := by simp [List.getD, hz]
    rw [ei] at hc
    exact hc
  · exact strs_of_head (rest := []) gNames tyNames Tryz.underlying53 Tryz.underlying9 (by kernel_rfl) (by kernel_rfl) h5 i s hs
end Go.Proofs.YteknmbijodbfoaaGreatDoor

/- control.hasForeign. -/
import Derived.Test.YtcdcmohccbhchaaGreatDoorKSto
namespace Go.Proofs.YtcdcmohccbhchaaGreatDoor
open Go.RowKit

section
variable (k : Int) (t : Id) (g : ByteArray) (n : Int) (m : Bool) (l : List Aut) (tx : ByteArray) (nu ht : Int) (r : Aut)
theorem strip1 : strip ⟨1, t, g, n, m, l, tx, nu, ht, r⟩ = ⟨1, zId, g, n, m, l, tx, nu, ht, r⟩ := rfl
theorem strip2 : strip ⟨2, t, g, n, m, l, tx, nu, ht, r⟩ = ⟨2, zId, ⟨#[]⟩, n, m, l, tx, nu, ht, r⟩ := rfl
theorem strip3 : strip ⟨3, t, g, n, m, l, tx, nu, ht, r⟩ = ⟨3, t, ⟨#[]⟩, 0, false, [], ⟨#[]⟩, nu, ht, r⟩ := rfl
theorem strip4 : strip ⟨4, t, g, n, m, l, tx, nu, ht, r⟩ = ⟨4, t, ⟨#[]⟩, 0, m, l, tx, nu, ht, r⟩ := rfl
theorem strip5 : strip ⟨5, t, g, n, m, l, tx, nu, ht, r⟩ = ⟨5, t, g, n, m, l, tx, 0, 0, zAut⟩ := rfl
end
set_option maxRecDepth 100000 in
set_option maxHeartbeats 400000 in
theorem foreignC (c : Cm) (v : Value) (w : World) (hv : AutsAt w v c.mods) (hl : c.mods.length ≤ 1000000) (h1 : 1 ≤ c.kind) (h5 : c.kind ≤ 5) :
    Calls Tryz.prog 40 #[.agg (cmC c v).toArray] w fun e w' => e = .returned (.bool (foreign c)) ∧ Gr w w' := by
  have HC : Hid (∀ W, Gr w W → Calls Tryz.prog 23 #[.agg (cmC (strip c) (stripV c v)).toArray, .agg (cmC (cm0 c.kind) nilV).toArray] W fun e w' => e = .returned (.bool (decide (strip c = cm0 c.kind))) ∧ Gr W w') :=
    fun W hg => eqlC (strip c) (cm0 c.kind) _ _ W (strip_auts (hv.gr hg)) (nil_auts W) (Nat.le_trans (strip_mods_len c) hl)
  have HF : Hid (foreign c = !decide (strip c = cm0 c.kind)) := rfl
  clear hv hl
  obtain ⟨k, t, g, n, m, l, tx, nu, ht, r⟩ := c
  have hk : k = 1 ∨ k = 2 ∨ k = 3 ∨ k = 4 ∨ k = 5 := by simp only at h1 h5; omega
  clear h1 h5
  rcases hk with rfl | rfl | rfl | rfl | rfl
  · rw [strip1] at HC HF
    have hs : stripV ⟨1, t, g, n, m, l, tx, nu, ht, r⟩ v = v := rfl
    rw [hs] at HC
    clear hs
    generalize decide ((⟨1, zId, g, n, m, l, tx, nu, ht, r⟩ : Cm) = cm0 1) = e at *
    go_enter Tryz.func40, Tryz.ntmps40
    go_wp2_with fail
    refine (HC.out _ ((Gr.refl w).alloc _)).mono ?_
    rintro e1 w1 ⟨rfl, hg1⟩
    go_wp2_with fail
    go_ret
    exact ⟨ret_bool HF.out.symm, ((Gr.refl w).alloc _).trans hg1⟩
  · rw [strip2] at HC HF
    have hs : stripV ⟨2, t, g, n, m, l, tx, nu, ht, r⟩ v = v := rfl
    rw [hs] at HC
    clear hs
    generalize decide ((⟨2, zId, ⟨#[]⟩, n, m, l, tx, nu, ht, r⟩ : Cm) = cm0 2) = e at *
    go_enter Tryz.func40, Tryz.ntmps40
    go_wp2_with fail
    refine (HC.out _ ((Gr.refl w).alloc _)).mono ?_
    rintro e1 w1 ⟨rfl, hg1⟩
    go_wp2_with fail
    go_ret
    exact ⟨ret_bool HF.out.symm, ((Gr.refl w).alloc _).trans hg1⟩
  · rw [strip3] at HC HF
    have hs : stripV ⟨3, t, g, n, m, l, tx, nu, ht, r⟩ v = nilV := rfl
    rw [hs] at HC
    clear hs
    generalize decide ((⟨3, t, ⟨#[]⟩, 0, false, [], ⟨#[]⟩, nu, ht, r⟩ : Cm) = cm0 3) = e at *
    go_enter Tryz.func40, Tryz.ntmps40
    go_wp2_with fail
    refine (HC.out _ ((Gr.refl w).alloc _)).mono ?_
    rintro e1 w1 ⟨rfl, hg1⟩
    go_wp2_with fail
    go_ret
    exact ⟨ret_bool HF.out.symm, ((Gr.refl w).alloc _).trans hg1⟩
  · rw [strip4] at HC HF
    have hs : stripV ⟨4, t, g, n, m, l, tx, nu, ht, r⟩ v = v := rfl
    rw [hs] at HC
    clear hs
    generalize decide ((⟨4, t, ⟨#[]⟩, 0, m, l, tx, nu, ht, r⟩ : Cm) = cm0 4) = e at *
    go_enter Tryz.func40, Tryz.ntmps40
    go_wp2_with fail
    refine (HC.out _ ((Gr.refl w).alloc _)).mono ?_
    rintro e1 w1 ⟨rfl, hg1⟩
    go_wp2_with fail
    go_ret
    exact ⟨ret_bool HF.out.symm, ((Gr.refl w).alloc _).trans hg1⟩
  · rw [strip5] at HC HF
    have hs : stripV ⟨5, t, g, n, m, l, tx, nu, ht, r⟩ v = v := rfl
    rw [hs] at HC
    clear hs
    generalize decide ((⟨5, t, g, n, m, l, tx, 0, 0, zAut⟩ : Cm) = cm0 5) = e at *
    go_enter Tryz.func40, Tryz.ntmps40
    go_wp2_with fail
    refine (HC.out _ ((Gr.refl w).alloc _)).mono ?_
    rintro e1 w1 ⟨rfl, hg1⟩
    go_wp2_with fail
    go_ret
    exact ⟨ret_bool HF.out.symm, ((Gr.refl w).alloc _).trans hg1⟩
end Go.Proofs.YtcdcmohccbhchaaGreatDoor

/- (Command).Check: the first error of a command. -/
import Derived.Test.YtcdcmohccbhchaaGreatDoorKFor
import Derived.Test.YtcdcmohccbhchaaGreatDoorKW3
namespace Go.Proofs.YtcdcmohccbhchaaGreatDoor
open Go.RowKit

theorem ks1 : kindS 1 = ⟨#[99, 97, 110, 99, 101, 108]⟩ := rfl
theorem ks2 : kindS 2 = ⟨#[97, 112, 112, 114, 111, 118, 101]⟩ := rfl
theorem ks3 : kindS 3 = ⟨#[100, 101, 102, 105, 110, 101]⟩ := rfl
theorem ks4 : kindS 4 = ⟨#[114, 101, 109, 111, 118, 101]⟩ := rfl
theorem ks5 : kindS 5 = ⟨#[114, 101, 107, 101, 121]⟩ := rfl
section
variable (t : Id) (g : ByteArray) (n : Int) (m : Bool) (l : List Aut) (tx : ByteArray) (nu ht : Int) (r : Aut)
theorem err1 (h : foreign ⟨1, t, g, n, m, l, tx, nu, ht, r⟩ = false) : cmErr ⟨1, t, g, n, m, l, tx, nu, ht, r⟩ = if t = zId then 1 else 0 := by
  unfold cmErr; rw [if_neg (show ¬ kindName 1 = [] by decide), if_neg (by rw [h]; decide)]; simp
theorem err2 (h : foreign ⟨2, t, g, n, m, l, tx, nu, ht, r⟩ = false) : cmErr ⟨2, t, g, n, m, l, tx, nu, ht, r⟩ = if t = zId then 1 else if nameErr g ≠ 0 then 12 else 0 := by
  unfold cmErr; rw [if_neg (show ¬ kindName 2 = [] by decide), if_neg (by rw [h]; decide)]; simp
theorem err3 (h : foreign ⟨3, t, g, n, m, l, tx, nu, ht, r⟩ = false) : cmErr ⟨3, t, g, n, m, l, tx, nu, ht, r⟩ = if nameErr g ≠ 0 then 12 else if n < 0 ∨ 1000000 < n then 2 else if modeErr ⟨3, t, g, n, m, l, tx, nu, ht, r⟩ ≠ 0 then modeErr ⟨3, t, g, n, m, l, tx, nu, ht, r⟩ else textErr (bl tx) := by
  unfold cmErr; rw [if_neg (show ¬ kindName 3 = [] by decide), if_neg (by rw [h]; decide)]; simp
theorem err4 (h : foreign ⟨4, t, g, n, m, l, tx, nu, ht, r⟩ = false) : cmErr ⟨4, t, g, n, m, l, tx, nu, ht, r⟩ = if nameErr g ≠ 0 then 12 else if n < 0 ∨ 1000000 < n then 2 else 0 := by
  unfold cmErr; rw [if_neg (show ¬ kindName 4 = [] by decide), if_neg (by rw [h]; decide)]; simp
theorem err5 (h : foreign ⟨5, t, g, n, m, l, tx, nu, ht, r⟩ = false) : cmErr ⟨5, t, g, n, m, l, tx, nu, ht, r⟩ = if nu < 1 ∨ 1000 < nu then 2 else heightErr ht := by
  unfold cmErr; rw [if_neg (show ¬ kindName 5 = [] by decide), if_neg (by rw [h]; decide)]; simp
end
theorem errF {c : Cm} (h1 : 1 ≤ c.kind) (h5 : c.kind ≤ 5) (h : foreign c = true) : cmErr c = 3 := by
  have hk : kindName c.kind ≠ [] := by
    have : c.kind = 1 ∨ c.kind = 2 ∨ c.kind = 3 ∨ c.kind = 4 ∨ c.kind = 5 := by omega
    rcases this with e | e | e | e | e <;> rw [e] <;> decide
  unfold cmErr; rw [if_neg hk, if_pos h]
theorem errK {c : Cm} (h : ¬ (1 ≤ c.kind ∧ c.kind ≤ 5)) : cmErr c = 11 ∧ kindS c.kind = ⟨#[]⟩ := by
  have hk : kindName c.kind = [] := by unfold kindName; rw [if_neg (by omega), if_neg (by omega), if_neg (by omega), if_neg (by omega), if_neg (by omega)]
  exact ⟨by unfold cmErr; rw [if_pos hk], by unfold kindS; rw [hk]; rfl⟩
set_option maxRecDepth 100000 in
set_option maxHeartbeats 2000000 in
theorem cmCheckC (c : Cm) (v : Value) (w : World) (hE : Env w) (hv : AutsAt w v c.mods) (hl : c.mods.length ≤ 1000000) (htx : c.text.size ≤ 9223372036854775807) :
    Calls Tryz.prog 17 #[.agg (cmC c v).toArray] w fun e w' => e = .returned (.int .i64 (cmErr c)) ∧ Gr w w' := by
  by_cases hk : 1 ≤ c.kind ∧ c.kind ≤ 5
  · have g0 := (Gr.refl w).alloc (.cells (cmC c v).toArray 37)
    have HF := Lib.hid (foreignC c v _ (hv.gr g0) hl hk.1 hk.2)
    have HM : Hid (∀ U, Gr w U → Calls Tryz.prog 44 #[.agg (cmC c v).toArray] U fun e w' => e = .returned (.int .i64 (modeErr c)) ∧ Gr U w') := fun U hU => modeCkC c v U (hv.gr hU) hl
    have HE : Hid (∀ U, Gr w U → Env U) := fun U hU => hE.gr hU
    have HT : Hid (∀ U, Calls Tryz.prog 45 #[.string c.text] U fun e w' => e = .returned (.int .i64 (textErr (bl c.text))) ∧ U = w') := fun U => textC c.text U htx
    have G0 := Lib.hid g0
    clear g0 hv hE hl htx
    obtain ⟨k, t, g, n, m, l, tx, nu, ht, r⟩ := c
    simp only at hk
    cases hf : foreign ⟨k, t, g, n, m, l, tx, nu, ht, r⟩ with
    | true =>
      have HR := Lib.hid (errF (c := ⟨k, t, g, n, m, l, tx, nu, ht, r⟩) hk.1 hk.2 hf)
      rw [hf] at HF
      have hk5 : k = 1 ∨ k = 2 ∨ k = 3 ∨ k = 4 ∨ k = 5 := by omega
      clear hk hf HM HE HT
      rcases hk5 with rfl | rfl | rfl | rfl | rfl
      · go_enter Tryz.func17, Tryz.ntmps17
        go_wp2_with (first | (go_at_call 28; refine (kindNameC _ _).mono ?_; rintro e w' ⟨rfl, rfl⟩; rw [ks1]) | (go_at_call 40; refine HF.out.mono ?_; rintro e w' ⟨rfl, hg1⟩))
        go_ret
        exact ⟨ret_int HR.out.symm, G0.out.trans hg1⟩
      · go_enter Tryz.func17, Tryz.ntmps17
        go_wp2_with (first | (go_at_call 28; refine (kindNameC _ _).mono ?_; rintro e w' ⟨rfl, rfl⟩; rw [ks2]) | (go_at_call 40; refine HF.out.mono ?_; rintro e w' ⟨rfl, hg1⟩))
        go_ret
        exact ⟨ret_int HR.out.symm, G0.out.trans hg1⟩
      · go_enter Tryz.func17, Tryz.ntmps17
        go_wp2_with (first | (go_at_call 28; refine (kindNameC _ _).mono ?_; rintro e w' ⟨rfl, rfl⟩; rw [ks3]) | (go_at_call 40; refine HF.out.mono ?_; rintro e w' ⟨rfl, hg1⟩))
        go_ret
        exact ⟨ret_int HR.out.symm, G0.out.trans hg1⟩
      · go_enter Tryz.func17, Tryz.ntmps17
        go_wp2_with (first | (go_at_call 28; refine (kindNameC _ _).mono ?_; rintro e w' ⟨rfl, rfl⟩; rw [ks4]) | (go_at_call 40; refine HF.out.mono ?_; rintro e w' ⟨rfl, hg1⟩))
        go_ret
        exact ⟨ret_int HR.out.symm, G0.out.trans hg1⟩
      · go_enter Tryz.func17, Tryz.ntmps17
        go_wp2_with (first | (go_at_call 28; refine (kindNameC _ _).mono ?_; rintro e w' ⟨rfl, rfl⟩; rw [ks5]) | (go_at_call 40; refine HF.out.mono ?_; rintro e w' ⟨rfl, hg1⟩))
        go_ret
        exact ⟨ret_int HR.out.symm, G0.out.trans hg1⟩
    | false =>
      rw [hf] at HF
      have hk5 : k = 1 ∨ k = 2 ∨ k = 3 ∨ k = 4 ∨ k = 5 := by omega
      clear hk
      rcases hk5 with rfl | rfl | rfl | rfl | rfl
      · have HR := Lib.hid (err1 t g n m l tx nu ht r hf)
        clear hf
        go_enter Tryz.func17, Tryz.ntmps17
        go_wp2_with (first | (go_at_call 28; refine (kindNameC _ _).mono ?_; rintro e w' ⟨rfl, rfl⟩; rw [ks1]) | (go_at_call 40; refine HF.out.mono ?_; rintro e w' ⟨rfl, hg1⟩; obtain ⟨p, rfl⟩ := hg1.gw) | (go_at_call 41; refine (isZeroC _ _).mono ?_; rintro e w' ⟨rfl, hg2⟩; obtain ⟨q, rfl⟩ := ((gr_gw _ _).trans hg2).gw))
        all_goals
          go_ret
          refine ⟨ret_int ?_, G0.out.trans (gr_gw _ _)⟩
          rw [HR.out]
          clear HR G0 HE HT HM HF
          first | (simp_all; done) | (simp_all; omega) | (repeat' split) <;> first | rfl | (exfalso; simp_all; done) | (exfalso; simp_all; omega)
      · have HR := Lib.hid (err2 t g n m l tx nu ht r hf)
        clear hf
        go_enter Tryz.func17, Tryz.ntmps17
        go_wp2_with (first | (go_at_call 28; refine (kindNameC _ _).mono ?_; rintro e w' ⟨rfl, rfl⟩; rw [ks2]) | (go_at_call 40; refine HF.out.mono ?_; rintro e w' ⟨rfl, hg1⟩; obtain ⟨p, rfl⟩ := hg1.gw) | (go_at_call 41; refine (isZeroC _ _).mono ?_; rintro e w' ⟨rfl, hg2⟩; obtain ⟨q, rfl⟩ := ((gr_gw _ _).trans hg2).gw) | (go_at_call 42; refine (checkName _ _ (HE.out _ (G0.out.trans (gr_gw _ _)))).mono ?_; rintro e w' ⟨rfl, hg3⟩; obtain ⟨q3, rfl⟩ := ((gr_gw _ _).trans hg3).gw))
        all_goals
          go_ret
          refine ⟨ret_int ?_, G0.out.trans (gr_gw _ _)⟩
          rw [HR.out]
          clear HR G0 HE HT HM HF
          first | (simp_all; done) | (simp_all; omega) | (repeat' split) <;> first | rfl | (exfalso; simp_all; done) | (exfalso; simp_all; omega)
      · have HR := Lib.hid (err3 t g n m l tx nu ht r hf)
        clear hf
        generalize modeErr ⟨3, t, g, n, m, l, tx, nu, ht, r⟩ = me at *
        generalize textErr (bl tx) = te at *
        go_enter Tryz.func17, Tryz.ntmps17
        go_wp2_with (first | (go_at_call 28; refine (kindNameC _ _).mono ?_; rintro e w' ⟨rfl, rfl⟩; rw [ks3]) | (go_at_call 40; refine HF.out.mono ?_; rintro e w' ⟨rfl, hg1⟩; obtain ⟨p, rfl⟩ := hg1.gw) | (go_at_call 42; refine (checkName _ _ (HE.out _ (G0.out.trans (gr_gw _ _)))).mono ?_; rintro e w' ⟨rfl, hg3⟩; obtain ⟨q3, rfl⟩ := ((gr_gw _ _).trans hg3).gw) | (go_at_call 44; refine (HM.out _ (G0.out.trans (gr_gw _ _))).mono ?_; rintro e w' ⟨rfl, hg4⟩; obtain ⟨q4, rfl⟩ := ((gr_gw _ _).trans hg4).gw) | (go_at_call 45; refine (HT.out _).mono ?_; rintro e w' ⟨rfl, rfl⟩))
        all_goals
          go_ret
          refine ⟨ret_int ?_, G0.out.trans (gr_gw _ _)⟩
          rw [HR.out]
          clear HR G0 HE HT HM HF
          first | (simp_all; done) | (simp_all; omega) | (repeat' split) <;> first | rfl | (exfalso; simp_all; done) | (exfalso; simp_all; omega)
      · have HR := Lib.hid (err4 t g n m l tx nu ht r hf)
        clear hf
        go_enter Tryz.func17, Tryz.ntmps17
        go_wp2_with (first | (go_at_call 28; refine (kindNameC _ _).mono ?_; rintro e w' ⟨rfl, rfl⟩; rw [ks4]) | (go_at_call 40; refine HF.out.mono ?_; rintro e w' ⟨rfl, hg1⟩; obtain ⟨p, rfl⟩ := hg1.gw) | (go_at_call 42; refine (checkName _ _ (HE.out _ (G0.out.trans (gr_gw _ _)))).mono ?_; rintro e w' ⟨rfl, hg3⟩; obtain ⟨q3, rfl⟩ := ((gr_gw _ _).trans hg3).gw))
        all_goals
          go_ret
          refine ⟨ret_int ?_, G0.out.trans (gr_gw _ _)⟩
          rw [HR.out]
          clear HR G0 HE HT HM HF
          first | (simp_all; done) | (simp_all; omega) | (repeat' split) <;> first | rfl | (exfalso; simp_all; done) | (exfalso; simp_all; omega)
      · have HR := Lib.hid (err5 t g n m l tx nu ht r hf)
        clear hf
        go_enter Tryz.func17, Tryz.ntmps17
        go_wp2_with (first | (go_at_call 28; refine (kindNameC _ _).mono ?_; rintro e w' ⟨rfl, rfl⟩; rw [ks5]) | (go_at_call 40; refine HF.out.mono ?_; rintro e w' ⟨rfl, hg1⟩; obtain ⟨p, rfl⟩ := hg1.gw) | (go_at_call 43; refine (pubCheckC _ _ _).mono ?_; rintro e w' ⟨rfl, hg5⟩; obtain ⟨q5, rfl⟩ := ((gr_gw _ _).trans hg5).gw))
        all_goals
          go_ret
          refine ⟨ret_int ?_, G0.out.trans (gr_gw _ _)⟩
          rw [HR.out]
          clear HR G0 HE HT HM HF
          first | (simp_all; done) | (simp_all; omega) | (repeat' split) <;> first | rfl | (exfalso; simp_all; done) | (exfalso; simp_all; omega)
  · have HR := Lib.hid (errK hk)
    go_enter Tryz.func17, Tryz.ntmps17
    go_wp2_with (go_at_call 28; refine (kindNameC _ _).mono ?_; rintro e w' ⟨rfl, rfl⟩; rw [HR.out.2])
    go_ret
    exact ⟨ret_int HR.out.1.symm, (Gr.refl w).alloc _⟩
end Go.Proofs.YtcdcmohccbhchaaGreatDoor

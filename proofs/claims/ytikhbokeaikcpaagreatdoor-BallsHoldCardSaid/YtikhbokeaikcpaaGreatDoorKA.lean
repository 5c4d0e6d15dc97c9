/- Contracts of this seat's functions (of each call: what it answers), walked over the abstract machine, and the laws of numbers that they want. Conditions: those that each theorem states. -/
import Derived.Test.YtikhbokeaikcpaaGreatDoorK9
import Derived.Test.YtikhbokeaikcpaaGreatDoorE7
set_option linter.unusedVariables false
set_option maxRecDepth 20000
set_option linter.unusedSimpArgs false
set_option linter.unusedSectionVars false
namespace Go.Ab
open Go.Proofs
open Cx (zero one)
attribute [-go_sem] appF newsF
variable {a b : AV} {x y r s t : Dyadic} {z w c d e : Cx} {B C B' C' n m P k : Nat} {cs ds es : List AV} {u u' : Nat → Cx} {v v' : Nat → Dyadic} {f g : Po}
/-! what is held is held: values, derivatives -/
theorem u8_bits (q : Nat) (hq : q < 256) (m : Nat) (hm : 0 < m) (hm2 : m < 256) : ((q : Int)).tmod (m : Int) = ((q % m : Nat) : Int) ∧ IntKind.u8.wrap (((q : Int)).tmod (m : Int)) = ((q % m : Nat) : Int) ∧ IntKind.i64.wrap (((q : Int)).tmod (m : Int)) = ((q % m : Nat) : Int) := by
  have e1 : ((q : Int)).tmod (m : Int) = ((q % m : Nat) : Int) := by rw [Int.natCast_emod]; exact Int.tmod_eq_emod_of_nonneg (by omega)
  have := Nat.mod_lt q hm
  refine ⟨e1, ?_, ?_⟩
  · rw [e1]; unfold IntKind.wrap; simp [IntKind.bits, IntKind.signed]; omega
  · rw [e1, wrap_id (by omega)]
set_option maxHeartbeats 4000000 in
theorem bhold_main {xc zc : List AV} (h : RTs cs n u v 296 296) (hcs : ∀ c ∈ cs, IsD c) (hn : n ≤ 10) (q : RP es k f 296) (hes : ∀ c ∈ es, IsD c) (hk : k ≤ 14) (tX : RT (.agg xc) c r 296 296) (tZ : RC (.agg zc) z 296)
    (f1 : Sat CT false 38 [.sl n cs] (Bo true)) (f3 : Sat CT false 39 [.sl k es] (Bo true)) (f4 : Sat CT false 40 [.agg xc] (Bo true)) (f5 : Sat CT false 54 [.agg zc] (Bo true)) (bb : Nat) (hb : bb < 256) :
    Sat CT false 5 [.sl n cs, .sl k es, .agg xc, .agg zc, .v (.int .u8 (bb : Nat))] (Bo true) := by
  refine sat_of annuluslaw12_BallsHold.ok (by simp) ?_
  have DD := annuluslaw12_BallsHold.dr
  simp only [drP, drPx, drPt, drR, drS, drT, bodyOf, Tryz.f5, Nat.reduceEqDiff, reduceIte, true_and, and_true] at DD
  have k0 := known12_s
  have qt := rtrim_s q (by decide)
  have hle := dg_le k f
  have w0 : ((bb : Int)).tmod 80 = ((bb % 80 : Nat) : Int) := (u8_bits bb hb 80 (by decide) (by decide)).1
  have w1 : IntKind.u8.wrap (((bb : Int)).tmod 80) = ((bb % 80 : Nat) : Int) := (u8_bits bb hb 80 (by decide) (by decide)).2.1
  have w2 : IntKind.i64.wrap (((bb : Int)).tmod 80) = ((bb % 80 : Nat) : Int) := (u8_bits bb hb 80 (by decide) (by decide)).2.2
  obtain ⟨p, hp⟩ : ∃ p : Int, p = ((bb % 80 : Nat) : Int) + 1 := ⟨_, rfl⟩
  have hp80 := Nat.mod_lt bb (show 0 < 80 by decide)
  have w3 : IntKind.i64.wrap (((bb % 80 : Nat) : Int) + 1) = p := by rw [wrap_id (by omega)]; exact hp.symm
  have w4 : IntKind.i64.wrap ((bb % 80 : Nat) : Int) = ((bb % 80 : Nat) : Int) := wrap_id (by omega)
  have hP : heldP p ≤ 260 := by unfold heldP; omega
  have hP1 := (heldP_v p).2.2.1
  have r1 := bhas_s h hcs (by omega) q hes (by decide) (by decide) (by decide)
  have r5 := fdisc_s tX (by decide) (by decide)
  have r6 := rcplx_r tZ (by decide)
  have r7 := fholds_s tX.cb (rp_db tX.db) tZ.cb (by decide) (by decide) (by decide)
  have hub : ∀ i, i < n → CB (u i) 296 := fun i hi => (h.el i hi).cb
  have hvb : ∀ i, i < n → DB (rp (v i)) 296 := fun i hi => rp_db (h.el i hi).db
  have hfb := q.pb
  have hfs := dg_sp q.sp
  have hself := dg_self q.sp
  have hpx := pld_RT tX
  have hpz := pld_RC tZ
  have tXc := tX.cb
  have tXd := rp_db tX.db
  have tZc := tZ.cb
  have r4 := bat_s h hn tX p hP
  have rO := bof_s q hes (by decide)
  have rT := bhas_s (RTs_T (n := dg k f) (u := f) (v := fun _ => 0) (B := 296) (B' := 296) (fun i _ => hfb i) (fun i _ => DB.zero _)) (isD_tls _ _ _) (by omega) q hes (by decide) (by decide) (by decide)
  rw [decide_eq_true (show mayP (dg k f) f (fun _ => rp 0) (dg k f) f from ⟨Nat.le_refl _, fun i _ => has_mid⟩)] at rT
  obtain ⟨s, l, e, t, kk, gg, o, pp, qq, e0, _⟩ := id tX
  obtain rfl := AV.agg.inj e0
  obtain ⟨s', l', e', t', kk', gg', e0', _⟩ := id tZ
  obtain rfl := AV.agg.inj e0'
  by_cases m1 : mayP n u (fun i => rp (v i)) (dg k f) f
  · by_cases m2 : hasP c (rp r) z
    · rw [decide_eq_true m1] at r1
      rw [decide_eq_true m2] at r7
      have hdn := m1.1
      generalize hD : dg k f = D at *
      have r8 := rat11_s (n := D) hfb tZc (by have := Nat.mul_le_mul_right 298 (show D ≤ 14 by omega); omega) (by omega)
      have vb : CB (ev D f z) 4500 := CB.mono (CB.ev hfb tZc D) (by have := Nat.mul_le_mul_right 298 (show D ≤ 14 by omega); omega)
      have hev : ev D f z = ev n f z := (ev_le hfs hdn z).symm
      have hat := has_at (n := n) (fun i => rp_nn (v i)) (rp_nn r) hP1 m1.2 m2 n (Nat.le_refl n)
      rw [Nat.sub_self, dp0, ← hev] at hat
      have aN := atR_nn (n := n) (u := u) (c := c) (v := fun i => rp (v i)) (fun i => rp_nn (v i)) (rp_nn r) hP1 n
      have bC := (atC_cb hub tXc n (Nat.le_refl n)).mono (C := 2980) (by omega)
      have bR := (atR_db hub hvb tXc tXd hP1 n (Nat.le_refl n)).mono (C := 8610) (Nat.le_trans (Nat.mul_le_mul hn (show heldP p + 601 ≤ 861 by omega)) (by decide))
      generalize atC n u c n = aC at *
      generalize atR n u (fun i => rp (v i)) c (rp r) (heldP p) n = aR at *
      have r9 := fdisc_s (RT_T bC bR) (by decide) (by decide)
      rw [rp_id aN] at r9
      have rA := fholds_s bC bR vb (by decide) (by decide) (by decide)
      rw [decide_eq_true hat] at rA
      have rB := bderiv_s h hcs (by omega)
      have rC := rderiv_s hfb hfs (by decide) (by omega)
      have db := hfb.der hfs (show D ≤ 1000000 by omega)
      have dsp := Sp.der' hfs
      have dsl := dg_le (D - 1) (der f)
      have dss := dg_self dsp
      have dspp := dg_sp dsp
      have rD := bhas_s (RTs_T (n := n - 1) (u := dvC u) (v := dvR v) (B := 400) (B' := 400) (fun i hi => by
          have bx := dv_small (v := ((i + 1 : Nat) : Int)) (by omega)
          exact CB.mono (B := 296 + 20) ⟨(hub (i + 1) (by omega)).1.mul bx, (hub (i + 1) (by omega)).2.mul bx⟩ (by decide)) (fun i hi => by
          have bx := dv_small (v := ((i + 1 : Nat) : Int)) (by omega)
          exact DB.mono (B := 296 + 20) ((hvb (i + 1) (by omega)).mul bx) (by decide))) (isD_tls _ _ _) (by omega) (RP_P db dspp (by omega)) (isD_pcl _ _) (by decide) (by decide) (by decide)
      rw [dss, decide_eq_true (show mayP (n - 1) (dvC u) (fun i => rp (dvR v i)) (dg (D - 1) (der f)) (der f) from ⟨by omega, fun i hi => by
        have e1 : rp (dvR v i) = rp (v (i + 1)) * dv ((i + 1 : Nat) : Int) 0 := rp_id (nn_mul (rp_nn _) (nat_nn (i + 1)))
        show hasP (dvC u i) (rp (dvR v i)) (der f i)
        rw [e1, der_tmz]
        exact has_tmz (rp_nn _) (nat_nn (i + 1)) (m1.2 (i + 1) (by omega))⟩)] at rD
      have ePA : ∀ (d : Nat) (g : Po), PA d g = .sl d (pcl d g) := fun _ _ => rfl
      have eTA : ∀ (d : Nat) (g : Nat → Cx) (h : Nat → Dyadic), TA d g h = .sl d (tls d g h) := fun _ _ _ => rfl
      rw [eTA] at rB rO
      rw [ePA] at qt rC r8
      clear hD
      simp -implicitDefEqProofs only [go_sem, simprocAttr, -Int.reducePow, Tryz.f5, DD, x_app, x_ga0, x_gas, x_gan, Int.cast_ofNat_Int, eq_self, Int.zero_lt_one, Bool.not_false, Bool.not_true, beq_self_eq_true]
      refine callK_q annuluslaw12_known.call (k0) rfl rfl ?_
      simp -implicitDefEqProofs only [go_sem, simprocAttr, -Int.reducePow, DD, x_app, x_ga0, x_gas, x_gan, Int.cast_ofNat_Int, eq_self, Int.zero_lt_one, Bool.not_false, Bool.not_true, beq_self_eq_true]
      refine callK_pl annuluslaw12_fewBalls.call (f1) (pl1 (pld_sl hcs)) ?_
      simp -implicitDefEqProofs only [go_sem, simprocAttr, -Int.reducePow, DD, x_app, x_ga0, x_gas, x_gan, Int.cast_ofNat_Int, eq_self, Int.zero_lt_one, Bool.not_false, Bool.not_true, beq_self_eq_true]
      refine callK_pl annuluslaw12_few.call (f3) (pl1 (pld_sl hes)) ?_
      simp -implicitDefEqProofs only [go_sem, simprocAttr, -Int.reducePow, DD, x_app, x_ga0, x_gas, x_gan, Int.cast_ofNat_Int, eq_self, Int.zero_lt_one, Bool.not_false, Bool.not_true, beq_self_eq_true]
      refine callK_pl annuluslaw12_fewDisc.call (f4) (pl1 hpx) ?_
      simp -implicitDefEqProofs only [go_sem, simprocAttr, -Int.reducePow, DD, x_app, x_ga0, x_gas, x_gan, Int.cast_ofNat_Int, eq_self, Int.zero_lt_one, Bool.not_false, Bool.not_true, beq_self_eq_true]
      refine callK_pl annuluslaw12_point.call (f5) (pl1 hpz) ?_
      simp -implicitDefEqProofs only [go_sem, simprocAttr, -Int.reducePow, DD, x_app, x_ga0, x_gas, x_gan, Int.cast_ofNat_Int, eq_self, Int.zero_lt_one, Bool.not_false, Bool.not_true, beq_self_eq_true]
      refine callK_pl balls_Has.call (r1) (pl2 (pld_sl hcs) (pld_sl hes)) ?_
      simp -implicitDefEqProofs only [go_sem, simprocAttr, -Int.reducePow, DD, x_app, x_ga0, x_gas, x_gan, Int.cast_ofNat_Int, eq_self, Int.zero_lt_one, Bool.not_false, Bool.not_true, beq_self_eq_true]
      refine callK_pl annulusref8_Disc.call (r5) (pl1 hpx) ?_
      simp -implicitDefEqProofs only [go_sem, simprocAttr, -Int.reducePow, DD, x_app, x_ga0, x_gas, x_gan, Int.cast_ofNat_Int, eq_self, Int.zero_lt_one, Bool.not_false, Bool.not_true, beq_self_eq_true]
      refine callK_pl annulusref8_Cplx.call (r6) (pl1 hpz) ?_
      simp -implicitDefEqProofs only [go_sem, simprocAttr, -Int.reducePow, DD, x_app, x_ga0, x_gas, x_gan, Int.cast_ofNat_Int, eq_self, Int.zero_lt_one, Bool.not_false, Bool.not_true, beq_self_eq_true]
      refine callK_pl annulusref8_Holds.call (r7) (pl2 (pld_TI _ _) (pld_CI _)) ?_
      simp -implicitDefEqProofs only [go_sem, simprocAttr, -Int.reducePow, DD, x_app, x_ga0, x_gas, x_gan, Int.cast_ofNat_Int, eq_self, Int.zero_lt_one, Bool.not_false, Bool.not_true, beq_self_eq_true]
      refine callK_pl annulusref11_Trim.call (qt) (pl1 (pld_sl hes)) ?_
      simp -implicitDefEqProofs only [go_sem, simprocAttr, -Int.reducePow, DD, x_app, x_ga0, x_gas, x_gan, Int.cast_ofNat_Int, eq_self, Int.zero_lt_one, Bool.not_false, Bool.not_true, beq_self_eq_true]
      refine callK_pl annulusref8_Cplx.call (r6) (pl1 hpz) ?_
      simp -implicitDefEqProofs only [go_sem, simprocAttr, -Int.reducePow, DD, x_app, x_ga0, x_gas, x_gan, Int.cast_ofNat_Int, eq_self, Int.zero_lt_one, Bool.not_false, Bool.not_true, beq_self_eq_true]
      refine callK_pl annulusref11_At.call (r8) (pl2 (pld_PA D f) (pld_CI _)) ?_
      simp -implicitDefEqProofs only [go_sem, simprocAttr, -Int.reducePow, DD, x_app, x_ga0, x_gas, x_gan, Int.cast_ofNat_Int, eq_self, Int.zero_lt_one, Bool.not_false, Bool.not_true, beq_self_eq_true, w0, w1, w2, w3, w4]
      refine callK_pl balls_At.call (r4) (pl3 (pld_sl hcs) hpx pld_int) ?_
      simp -implicitDefEqProofs only [go_sem, simprocAttr, -Int.reducePow, DD, x_app, x_ga0, x_gas, x_gan, Int.cast_ofNat_Int, eq_self, Int.zero_lt_one, Bool.not_false, Bool.not_true, beq_self_eq_true, w0, w1, w2, w3, w4]
      refine callK_pl annulusref8_Disc.call (r9) (pl1 (pld_TI _ _)) ?_
      simp -implicitDefEqProofs only [go_sem, simprocAttr, -Int.reducePow, DD, x_app, x_ga0, x_gas, x_gan, Int.cast_ofNat_Int, eq_self, Int.zero_lt_one, Bool.not_false, Bool.not_true, beq_self_eq_true, w0, w1, w2, w3, w4]
      refine callK_pl annulusref8_Holds.call (rA) (pl2 (pld_TI _ _) (pld_CI _)) ?_
      simp -implicitDefEqProofs only [go_sem, simprocAttr, -Int.reducePow, DD, x_app, x_ga0, x_gas, x_gan, Int.cast_ofNat_Int, eq_self, Int.zero_lt_one, Bool.not_false, Bool.not_true, beq_self_eq_true, w0, w1, w2, w3, w4]
      refine callK_pl balls_Deriv.call (rB) (pl1 (pld_sl hcs)) ?_
      simp -implicitDefEqProofs only [go_sem, simprocAttr, -Int.reducePow, DD, x_app, x_ga0, x_gas, x_gan, Int.cast_ofNat_Int, eq_self, Int.zero_lt_one, Bool.not_false, Bool.not_true, beq_self_eq_true, w0, w1, w2, w3, w4]
      refine callK_pl annulusref11_Trim.call (qt) (pl1 (pld_sl hes)) ?_
      simp -implicitDefEqProofs only [go_sem, simprocAttr, -Int.reducePow, DD, x_app, x_ga0, x_gas, x_gan, Int.cast_ofNat_Int, eq_self, Int.zero_lt_one, Bool.not_false, Bool.not_true, beq_self_eq_true, w0, w1, w2, w3, w4]
      refine callK_pl annulusref11_Deriv.call (rC) (pl1 (pld_PA D f)) ?_
      simp -implicitDefEqProofs only [go_sem, simprocAttr, -Int.reducePow, DD, x_app, x_ga0, x_gas, x_gan, Int.cast_ofNat_Int, eq_self, Int.zero_lt_one, Bool.not_false, Bool.not_true, beq_self_eq_true, w0, w1, w2, w3, w4]
      refine callK_pl balls_Has.call (rD) (pl2 (pld_TA (n - 1) (dvC u) (dvR v)) (pld_PA _ _)) ?_
      simp -implicitDefEqProofs only [go_sem, simprocAttr, -Int.reducePow, DD, x_app, x_ga0, x_gas, x_gan, Int.cast_ofNat_Int, eq_self, Int.zero_lt_one, Bool.not_false, Bool.not_true, beq_self_eq_true, w0, w1, w2, w3, w4]
      refine callK_pl balls_Of.call (rO) (pl1 (pld_sl hes)) ?_
      simp -implicitDefEqProofs only [go_sem, simprocAttr, -Int.reducePow, DD, x_app, x_ga0, x_gas, x_gan, Int.cast_ofNat_Int, eq_self, Int.zero_lt_one, Bool.not_false, Bool.not_true, beq_self_eq_true, w0, w1, w2, w3, w4]
      refine callK_pl balls_Has.call (rT) (pl2 (pld_TA D f (fun _ => 0)) (pld_sl hes)) ?_
      simp -implicitDefEqProofs only [go_sem, simprocAttr, -Int.reducePow, DD, x_app, x_ga0, x_gas, x_gan, Int.cast_ofNat_Int, eq_self, Int.zero_lt_one, Bool.not_false, Bool.not_true, beq_self_eq_true, w0, w1, w2, w3, w4]
    · rw [decide_eq_true m1] at r1
      rw [decide_eq_false m2] at r7
      simp -implicitDefEqProofs only [go_sem, simprocAttr, -Int.reducePow, Tryz.f5, DD, x_app, x_ga0, x_gas, x_gan, Int.cast_ofNat_Int, eq_self, Int.zero_lt_one, Bool.not_false, Bool.not_true, beq_self_eq_true]
      refine callK_q annuluslaw12_known.call (k0) rfl rfl ?_
      simp -implicitDefEqProofs only [go_sem, simprocAttr, -Int.reducePow, DD, x_app, x_ga0, x_gas, x_gan, Int.cast_ofNat_Int, eq_self, Int.zero_lt_one, Bool.not_false, Bool.not_true, beq_self_eq_true]
      refine callK_pl annuluslaw12_fewBalls.call (f1) (pl1 (pld_sl hcs)) ?_
      simp -implicitDefEqProofs only [go_sem, simprocAttr, -Int.reducePow, DD, x_app, x_ga0, x_gas, x_gan, Int.cast_ofNat_Int, eq_self, Int.zero_lt_one, Bool.not_false, Bool.not_true, beq_self_eq_true]
      refine callK_pl annuluslaw12_few.call (f3) (pl1 (pld_sl hes)) ?_
      simp -implicitDefEqProofs only [go_sem, simprocAttr, -Int.reducePow, DD, x_app, x_ga0, x_gas, x_gan, Int.cast_ofNat_Int, eq_self, Int.zero_lt_one, Bool.not_false, Bool.not_true, beq_self_eq_true]
      refine callK_pl annuluslaw12_fewDisc.call (f4) (pl1 hpx) ?_
      simp -implicitDefEqProofs only [go_sem, simprocAttr, -Int.reducePow, DD, x_app, x_ga0, x_gas, x_gan, Int.cast_ofNat_Int, eq_self, Int.zero_lt_one, Bool.not_false, Bool.not_true, beq_self_eq_true]
      refine callK_pl annuluslaw12_point.call (f5) (pl1 hpz) ?_
      simp -implicitDefEqProofs only [go_sem, simprocAttr, -Int.reducePow, DD, x_app, x_ga0, x_gas, x_gan, Int.cast_ofNat_Int, eq_self, Int.zero_lt_one, Bool.not_false, Bool.not_true, beq_self_eq_true]
      refine callK_pl balls_Has.call (r1) (pl2 (pld_sl hcs) (pld_sl hes)) ?_
      simp -implicitDefEqProofs only [go_sem, simprocAttr, -Int.reducePow, DD, x_app, x_ga0, x_gas, x_gan, Int.cast_ofNat_Int, eq_self, Int.zero_lt_one, Bool.not_false, Bool.not_true, beq_self_eq_true]
      refine callK_pl annulusref8_Disc.call (r5) (pl1 hpx) ?_
      simp -implicitDefEqProofs only [go_sem, simprocAttr, -Int.reducePow, DD, x_app, x_ga0, x_gas, x_gan, Int.cast_ofNat_Int, eq_self, Int.zero_lt_one, Bool.not_false, Bool.not_true, beq_self_eq_true]
      refine callK_pl annulusref8_Cplx.call (r6) (pl1 hpz) ?_
      simp -implicitDefEqProofs only [go_sem, simprocAttr, -Int.reducePow, DD, x_app, x_ga0, x_gas, x_gan, Int.cast_ofNat_Int, eq_self, Int.zero_lt_one, Bool.not_false, Bool.not_true, beq_self_eq_true]
      refine callK_pl annulusref8_Holds.call (r7) (pl2 (pld_TI _ _) (pld_CI _)) ?_
      simp -implicitDefEqProofs only [go_sem, simprocAttr, -Int.reducePow, DD, x_app, x_ga0, x_gas, x_gan, Int.cast_ofNat_Int, eq_self, Int.zero_lt_one, Bool.not_false, Bool.not_true, beq_self_eq_true]
  · rw [decide_eq_false m1] at r1
    simp -implicitDefEqProofs only [go_sem, simprocAttr, -Int.reducePow, Tryz.f5, DD, x_app, x_ga0, x_gas, x_gan, Int.cast_ofNat_Int, eq_self, Int.zero_lt_one, Bool.not_false, Bool.not_true, beq_self_eq_true]
    refine callK_q annuluslaw12_known.call (k0) rfl rfl ?_
    simp -implicitDefEqProofs only [go_sem, simprocAttr, -Int.reducePow, DD, x_app, x_ga0, x_gas, x_gan, Int.cast_ofNat_Int, eq_self, Int.zero_lt_one, Bool.not_false, Bool.not_true, beq_self_eq_true]
    refine callK_pl annuluslaw12_fewBalls.call (f1) (pl1 (pld_sl hcs)) ?_
    simp -implicitDefEqProofs only [go_sem, simprocAttr, -Int.reducePow, DD, x_app, x_ga0, x_gas, x_gan, Int.cast_ofNat_Int, eq_self, Int.zero_lt_one, Bool.not_false, Bool.not_true, beq_self_eq_true]
    refine callK_pl annuluslaw12_few.call (f3) (pl1 (pld_sl hes)) ?_
    simp -implicitDefEqProofs only [go_sem, simprocAttr, -Int.reducePow, DD, x_app, x_ga0, x_gas, x_gan, Int.cast_ofNat_Int, eq_self, Int.zero_lt_one, Bool.not_false, Bool.not_true, beq_self_eq_true]
    refine callK_pl annuluslaw12_fewDisc.call (f4) (pl1 hpx) ?_
    simp -implicitDefEqProofs only [go_sem, simprocAttr, -Int.reducePow, DD, x_app, x_ga0, x_gas, x_gan, Int.cast_ofNat_Int, eq_self, Int.zero_lt_one, Bool.not_false, Bool.not_true, beq_self_eq_true]
    refine callK_pl annuluslaw12_point.call (f5) (pl1 hpz) ?_
    simp -implicitDefEqProofs only [go_sem, simprocAttr, -Int.reducePow, DD, x_app, x_ga0, x_gas, x_gan, Int.cast_ofNat_Int, eq_self, Int.zero_lt_one, Bool.not_false, Bool.not_true, beq_self_eq_true]
    refine callK_pl balls_Has.call (r1) (pl2 (pld_sl hcs) (pld_sl hes)) ?_
    simp -implicitDefEqProofs only [go_sem, simprocAttr, -Int.reducePow, DD, x_app, x_ga0, x_gas, x_gan, Int.cast_ofNat_Int, eq_self, Int.zero_lt_one, Bool.not_false, Bool.not_true, beq_self_eq_true]
theorem ballsHold_sat (F : Nat → RawT) (hF : ∀ i, (F i).ok ∧ (-9223372036854775808 ≤ (F i).q ∧ (F i).q ≤ 9223372036854775807)) (hn : n ≤ 9223372036854775807) (Q : Nat → Raw) (hQ : ∀ i, (Q i).ok) (hk : k ≤ 9223372036854775807)
    (X : RawT) (hX : X.ok ∧ (-9223372036854775808 ≤ X.q ∧ X.q ≤ 9223372036854775807)) (Z : Raw) (hZ : Z.ok) (b : Nat) (hb : b < 256) :
    Sat CT false 5 [.sl n (tql n F), .sl k (qcl k Q), .agg X.cells, .agg Z.cells, .v (.int .u8 (b : Nat))] (Bo true) := by
  have k0 := known12_s
  have f1 := fewB12_s F hn
  have f3 := few12_s Q hk
  have f4 := fewD12_s X
  have f5 := point12_s Z
  have p1 := pld_tql n F
  have p3 := pld_q k Q
  have p4 := pld_rawT X
  have p5 : PlD (.agg Z.cells) := by
    refine ⟨isD_agg (fun a ha => ?_), fun H => rfl, fun H a ha => ?_, fun H l => rfl⟩
    · simp only [Raw.cells, List.mem_cons, List.not_mem_nil, or_false] at ha
      rcases ha with rfl | rfl | rfl | rfl | rfl | rfl <;> first | exact .v _ | exact isD_u32 _ _
    · simp only [Raw.cells, List.mem_cons, List.not_mem_nil, or_false] at ha
      rcases ha with rfl | rfl | rfl | rfl | rfl | rfl <;> trivial
  by_cases qq : (((∀ i, i < n → (F i).sm) ∧ n ≤ 10) ∧ ((∀ i, i < k → (Q i).sm) ∧ k ≤ 14)) ∧ X.sm ∧ Z.sm
  · obtain ⟨⟨q1, q3⟩, q4, q5⟩ := qq
    rw [decide_eq_true q1] at f1
    rw [decide_eq_true q3] at f3
    rw [decide_eq_true q4] at f4
    rw [decide_eq_true q5] at f5
    exact bhold_main (few_rts hF q1.1) (isD_tql n F) q1.2 (RP_q (fun i _ => hQ i) q3.1 (by omega)) (isD_qcl k Q) q3.2 (RawT.rts hX.1 q4) (Raw.rc hZ q5) f1 f3 f4 f5 b hb
  refine sat_of annuluslaw12_BallsHold.ok (by simp) ?_
  have DD := annuluslaw12_BallsHold.dr
  simp only [drP, drPx, drPt, drR, drS, drT, bodyOf, Tryz.f5, Nat.reduceEqDiff, reduceIte, true_and, and_true] at DD
  simp only [RawT.cells] at f4 p4
  simp only [Raw.cells] at f5 p5
  by_cases q1 : (∀ i, i < n → (F i).sm) ∧ n ≤ 10
  · rw [decide_eq_true q1] at f1
    by_cases q3 : (∀ i, i < k → (Q i).sm) ∧ k ≤ 14
    · rw [decide_eq_true q3] at f3
      by_cases q4 : X.sm
      · rw [decide_eq_true q4] at f4
        have q5 : ¬ Z.sm := fun q5 => qq ⟨⟨q1, q3⟩, q4, q5⟩
        rw [decide_eq_false q5] at f5
        simp -implicitDefEqProofs only [go_sem, simprocAttr, -Int.reducePow, Tryz.f5, DD, x_app, x_ga0, x_gas, x_gan, Int.cast_ofNat_Int, eq_self, Int.zero_lt_one, Bool.not_false, Bool.not_true, beq_self_eq_true, RawT.cells, Raw.cells]
        refine callK_q annuluslaw12_known.call (k0) rfl rfl ?_
        simp -implicitDefEqProofs only [go_sem, simprocAttr, -Int.reducePow, DD, x_app, x_ga0, x_gas, x_gan, Int.cast_ofNat_Int, eq_self, Int.zero_lt_one, Bool.not_false, Bool.not_true, beq_self_eq_true]
        refine callK_pl annuluslaw12_fewBalls.call (f1) (pl1 p1) ?_
        simp -implicitDefEqProofs only [go_sem, simprocAttr, -Int.reducePow, DD, x_app, x_ga0, x_gas, x_gan, Int.cast_ofNat_Int, eq_self, Int.zero_lt_one, Bool.not_false, Bool.not_true, beq_self_eq_true]
        refine callK_pl annuluslaw12_few.call (f3) (pl1 p3) ?_
        simp -implicitDefEqProofs only [go_sem, simprocAttr, -Int.reducePow, DD, x_app, x_ga0, x_gas, x_gan, Int.cast_ofNat_Int, eq_self, Int.zero_lt_one, Bool.not_false, Bool.not_true, beq_self_eq_true]
        refine callK_pl annuluslaw12_fewDisc.call (f4) (pl1 p4) ?_
        simp -implicitDefEqProofs only [go_sem, simprocAttr, -Int.reducePow, DD, x_app, x_ga0, x_gas, x_gan, Int.cast_ofNat_Int, eq_self, Int.zero_lt_one, Bool.not_false, Bool.not_true, beq_self_eq_true]
        refine callK_pl annuluslaw12_point.call (f5) (pl1 p5) ?_
        simp -implicitDefEqProofs only [go_sem, simprocAttr, -Int.reducePow, DD, x_app, x_ga0, x_gas, x_gan, Int.cast_ofNat_Int, eq_self, Int.zero_lt_one, Bool.not_false, Bool.not_true, beq_self_eq_true]
      · rw [decide_eq_false q4] at f4
        simp -implicitDefEqProofs only [go_sem, simprocAttr, -Int.reducePow, Tryz.f5, DD, x_app, x_ga0, x_gas, x_gan, Int.cast_ofNat_Int, eq_self, Int.zero_lt_one, Bool.not_false, Bool.not_true, beq_self_eq_true, RawT.cells, Raw.cells]
        refine callK_q annuluslaw12_known.call (k0) rfl rfl ?_
        simp -implicitDefEqProofs only [go_sem, simprocAttr, -Int.reducePow, DD, x_app, x_ga0, x_gas, x_gan, Int.cast_ofNat_Int, eq_self, Int.zero_lt_one, Bool.not_false, Bool.not_true, beq_self_eq_true]
        refine callK_pl annuluslaw12_fewBalls.call (f1) (pl1 p1) ?_
        simp -implicitDefEqProofs only [go_sem, simprocAttr, -Int.reducePow, DD, x_app, x_ga0, x_gas, x_gan, Int.cast_ofNat_Int, eq_self, Int.zero_lt_one, Bool.not_false, Bool.not_true, beq_self_eq_true]
        refine callK_pl annuluslaw12_few.call (f3) (pl1 p3) ?_
        simp -implicitDefEqProofs only [go_sem, simprocAttr, -Int.reducePow, DD, x_app, x_ga0, x_gas, x_gan, Int.cast_ofNat_Int, eq_self, Int.zero_lt_one, Bool.not_false, Bool.not_true, beq_self_eq_true]
        refine callK_pl annuluslaw12_fewDisc.call (f4) (pl1 p4) ?_
        simp -implicitDefEqProofs only [go_sem, simprocAttr, -Int.reducePow, DD, x_app, x_ga0, x_gas, x_gan, Int.cast_ofNat_Int, eq_self, Int.zero_lt_one, Bool.not_false, Bool.not_true, beq_self_eq_true]
    · rw [decide_eq_false q3] at f3
      simp -implicitDefEqProofs only [go_sem, simprocAttr, -Int.reducePow, Tryz.f5, DD, x_app, x_ga0, x_gas, x_gan, Int.cast_ofNat_Int, eq_self, Int.zero_lt_one, Bool.not_false, Bool.not_true, beq_self_eq_true, RawT.cells, Raw.cells]
      refine callK_q annuluslaw12_known.call (k0) rfl rfl ?_
      simp -implicitDefEqProofs only [go_sem, simprocAttr, -Int.reducePow, DD, x_app, x_ga0, x_gas, x_gan, Int.cast_ofNat_Int, eq_self, Int.zero_lt_one, Bool.not_false, Bool.not_true, beq_self_eq_true]
      refine callK_pl annuluslaw12_fewBalls.call (f1) (pl1 p1) ?_
      simp -implicitDefEqProofs only [go_sem, simprocAttr, -Int.reducePow, DD, x_app, x_ga0, x_gas, x_gan, Int.cast_ofNat_Int, eq_self, Int.zero_lt_one, Bool.not_false, Bool.not_true, beq_self_eq_true]
      refine callK_pl annuluslaw12_few.call (f3) (pl1 p3) ?_
      simp -implicitDefEqProofs only [go_sem, simprocAttr, -Int.reducePow, DD, x_app, x_ga0, x_gas, x_gan, Int.cast_ofNat_Int, eq_self, Int.zero_lt_one, Bool.not_false, Bool.not_true, beq_self_eq_true]
  · rw [decide_eq_false q1] at f1
    simp -implicitDefEqProofs only [go_sem, simprocAttr, -Int.reducePow, Tryz.f5, DD, x_app, x_ga0, x_gas, x_gan, Int.cast_ofNat_Int, eq_self, Int.zero_lt_one, Bool.not_false, Bool.not_true, beq_self_eq_true, RawT.cells, Raw.cells]
    refine callK_q annuluslaw12_known.call (k0) rfl rfl ?_
    simp -implicitDefEqProofs only [go_sem, simprocAttr, -Int.reducePow, DD, x_app, x_ga0, x_gas, x_gan, Int.cast_ofNat_Int, eq_self, Int.zero_lt_one, Bool.not_false, Bool.not_true, beq_self_eq_true]
    refine callK_pl annuluslaw12_fewBalls.call (f1) (pl1 p1) ?_
    simp -implicitDefEqProofs only [go_sem, simprocAttr, -Int.reducePow, DD, x_app, x_ga0, x_gas, x_gan, Int.cast_ofNat_Int, eq_self, Int.zero_lt_one, Bool.not_false, Bool.not_true, beq_self_eq_true]
end Go.Ab

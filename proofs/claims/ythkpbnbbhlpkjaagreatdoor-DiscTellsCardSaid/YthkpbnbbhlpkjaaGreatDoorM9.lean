/- Contracts of this seat's functions (of each call: what it answers), walked over the abstract machine, and the laws of numbers that they want. Conditions: those that each theorem states. -/
import Derived.Test.YthkpbnbbhlpkjaaGreatDoorM8
set_option linter.unusedVariables false
set_option maxRecDepth 20000
set_option linter.unusedSimpArgs false
set_option linter.unusedSectionVars false
namespace Go.Ab
open Go.Proofs
open Cx (zero one)
attribute [-go_sem] appF newsF
variable {a b : AV} {x y r s t : Dyadic} {z w c d e : Cx} {B C B' C' n m : Nat}
/-! the law of what is told -/
theorem grown_eq (k : Int) (hr : 0 ≤ r.toRat) : rp (r * dv k 0) = r * dv (max 0 k) 0 := by
  by_cases h : 0 ≤ k
  · rw [show max 0 k = k by omega]
    refine rp_id (nn_mul hr ?_)
    rw [← sgn_nn]
    have := dnum_lt (m := k) (e := 0)
    omega
  · rw [show max 0 k = 0 by omega, dv_zero, show r * (0 : Dyadic) = 0 by grind]
    by_cases h0 : r = 0
    · rw [h0, show (0 : Dyadic) * dv k 0 = 0 by grind]; exact rp0
    · unfold rp
      refine if_pos ?_
      have e1 := dsg_mul r (dv k 0)
      unfold dsg at e1
      have s1 : (dnum r).sign = 1 := by
        rw [← sgn_nn] at hr
        have : dnum r ≠ 0 := fun q => h0 (dnum_zero.1 q)
        exact Int.sign_eq_one_of_pos (by omega)
      have s2 : (dnum (dv k 0)).sign = -1 := by rw [dnum_sign]; exact Int.sign_eq_neg_one_of_neg (by omega)
      rw [e1, s1, s2]
      decide
theorem held200 (p : Int) : heldP (min p 200) ≤ 200 := by unfold heldP; omega
set_option maxHeartbeats 4000000 in
theorem discTells_sat (X : RawT) (hX : X.ok ∧ (-9223372036854775808 ≤ X.q ∧ X.q ≤ 9223372036854775807)) (Y : RawT) (hY : Y.ok ∧ (-9223372036854775808 ≤ Y.q ∧ Y.q ≤ 9223372036854775807)) (W : Raw) (hW : W.ok) (p : Int) (hp : -9223372036854775808 ≤ p ∧ p ≤ 9223372036854775807) (n : Int) (hn : -9223372036854775808 ≤ n ∧ n ≤ 9223372036854775807) :
    Sat CT false 4 [.agg X.cells, .agg Y.cells, .agg W.cells, I64 p, I64 n] (Bo true) := by
  refine sat_of annuluslaw10_DiscTells.ok (by simp) ?_
  have DD := annuluslaw10_DiscTells.dr
  simp only [drP, drPx, drPt, drR, drS, drT, bodyOf, Tryz.f4, Nat.reduceEqDiff, reduceIte, true_and, and_true] at DD
  have k0 := known10_s
  obtain ⟨⟨xn, xl, xe, xm, xk, xf⟩, xo, xp, xq⟩ := X
  obtain ⟨⟨yn, yl, ye, ym, yk, yf⟩, yo, yp, yq⟩ := Y
  obtain ⟨wn, wl, we, wm, wk, wf⟩ := W
  have f1 := fewD_s ⟨⟨xn, xl, xe, xm, xk, xf⟩, xo, xp, xq⟩
  have f2 := fewD_s ⟨⟨yn, yl, ye, ym, yk, yf⟩, yo, yp, yq⟩
  have f3 := fewC_s wn wl we wm wk wf
  simp only [RawT.cells, Raw.cells] at *
  by_cases q1 : RawT.few ⟨⟨xn, xl, xe, xm, xk, xf⟩, xo, xp, xq⟩
  · rw [decide_eq_true q1] at f1
    by_cases q2 : RawT.few ⟨⟨yn, yl, ye, ym, yk, yf⟩, yo, yp, yq⟩
    · rw [decide_eq_true q2] at f2
      by_cases q3 : few1 wl we ∧ few1 wk wf
      · rw [decide_eq_true q3] at f3
        by_cases q4 : 200 < p ∧ p ≤ 4000
        · obtain ⟨q41, q42⟩ := q4
          simp -implicitDefEqProofs only [go_sem, simprocAttr, -Int.reducePow, Tryz.f4, DD, q41, q42, gt_iff_lt, List.take_succ_cons, List.drop_succ_cons]
          refine callK_q annuluslaw10_known.call (k0) rfl rfl ?_
          simp -implicitDefEqProofs only [go_sem, simprocAttr, -Int.reducePow, DD, q41, q42, gt_iff_lt, List.take_succ_cons, List.drop_succ_cons]
          refine callK_q annuluslaw10_fewDisc.call (f1) rfl rfl ?_
          simp -implicitDefEqProofs only [go_sem, simprocAttr, -Int.reducePow, DD, q41, q42, gt_iff_lt, List.take_succ_cons, List.drop_succ_cons]
          refine callK_q annuluslaw10_fewDisc.call (f2) rfl rfl ?_
          simp -implicitDefEqProofs only [go_sem, simprocAttr, -Int.reducePow, DD, q41, q42, gt_iff_lt, List.take_succ_cons, List.drop_succ_cons]
          refine callK_q annuluslaw10_fewCplx.call (f3) rfl rfl ?_
          simp -implicitDefEqProofs only [go_sem, simprocAttr, -Int.reducePow, DD, q41, q42, gt_iff_lt, List.take_succ_cons, List.drop_succ_cons]
        · skip
          have tX := RawT.rt hX.1 q1
          have tY := RawT.rt hY.1 q2
          have cW := Raw.rc10 hW q3
          have q1p : few1 xp xq := q1.2
          have q1l : Lm xp := hX.1.2
          have mk := make_sat xo xp xq q1l (Nat.lt_of_le_of_lt q1p.1 (by decide)) ((nv_Lt2 q1l q1p.1).mono (by decide)) (by clear q1 q2 q3 hX hY hW; omega)
          rw [show dv (iv xo xp) xq = RawT.rd ⟨⟨xn, xl, xe, xm, xk, xf⟩, xo, xp, xq⟩ from rfl] at mk
          have hP := held200 p
          have hP1 := (heldP_v (min p 200)).2.2.1
          simp only [RawT.cells, Raw.cells] at *
          generalize RawT.rd ⟨⟨xn, xl, xe, xm, xk, xf⟩, xo, xp, xq⟩ = rx at *
          generalize RawT.rd ⟨⟨yn, yl, ye, ym, yk, yf⟩, yo, yp, yq⟩ = ry at *
          generalize Raw.z ⟨xn, xl, xe, xm, xk, xf⟩ = cx at *
          generalize Raw.z ⟨yn, yl, ye, ym, yk, yf⟩ = cy at *
          generalize Raw.z ⟨wn, wl, we, wm, wk, wf⟩ = cw at *
          have rX := rp_nn rx
          have rY := rp_nn ry
          have bX := tX.cb
          have bY := tY.cb
          have dX := rp_db tX.db
          have dY := rp_db tY.db
          have m4 := mrad_db bX dX bY dY hP1 (K := 3000) (by omega) (by omega) (by decide)
          have m5 := dmuls_s tX tY (by decide) (by decide) (by decide) (by decide) (min p 200) (K := 3000) (by omega) (by omega) (by decide) (by decide)
          have m6 := fmul_s bX dX bY dY (by decide) (by decide) (by decide) (by decide) (min p 200) (by omega) (K := 3000) (by omega) (by omega) (by decide) (by decide)
          obtain ⟨k, hk⟩ : ∃ k : Int, k = min n 5 := ⟨_, rfl⟩
          have p1 := dpow_s tX (by decide) k (min p 200) (by omega) hP
          have p2 := fpow_s bX dX rX (by decide) k (min p 200) (by omega) hP
          have hk5 : k.toNat ≤ 5 := by omega
          have pb : CB (cpw cx k.toNat) 7000 := ⟨(cpw_db bX k.toNat).1.mono (by have : k.toNat * (1320 + 1) ≤ 5 * 1321 := Nat.mul_le_mul hk5 (by decide); omega), (cpw_db bX k.toNat).2.mono (by have : k.toNat * (1320 + 1) ≤ 5 * 1321 := Nat.mul_le_mul hk5 (by decide); omega)⟩
          have qb : DB (rpw cx (rp rx) (heldP (min p 200)) k.toNat) 8000 := (rpw_db bX dX hP1 k.toNat).mono (by have : k.toNat * (1320 + heldP (min p 200) + 8) ≤ 5 * 1528 := Nat.mul_le_mul hk5 (by omega); omega)
          have p3 := fequal_s pb qb pb qb (by decide) (by decide) (by decide) (by decide)
          rw [decide_eq_true ⟨rfl, rfl⟩] at p3
          have g1 := dfarn_s tX (by decide) (min p 200)
          have g2 := ffar_s bX (by decide) (min p 200) (by omega)
          have g3 := requal4 (far_db2 bX hP1 true) (by omega)
          generalize heldP (min p 200) = P at *
          have m7 := fequal_s (bX.mul bY) m4 (bX.mul bY) m4 (by decide) (by decide) (by decide) (by decide)
          rw [decide_eq_true ⟨rfl, rfl⟩] at m7
          have d1 := fdisc_s tX (by decide) (by decide)
          have d2 := fdisc_s tY (by decide) (by decide)
          have o1 := rof4_sat (max 0 k) (by omega) (by omega)
          have bk : DB (dv (max 0 k) 0) 64 := dI_db (by omega)
          have o2 := rmul4 (RD_D dX) (RD_D bk) (by decide) (by decide)
          have i1 := dis_s tX (by decide)
          have i2 := rsign4_r (RD_D tX.db) (by decide)
          have h1 := dhas_s tX cW (by decide) (by decide) (by decide)
          have h2 := rcplx_r cW (by decide)
          have h3 := fholds_s bX dX cW.cb (by decide) (by decide) (by decide)
          have j1 := din_s tX tY (by decide) (by decide) (by decide) (by decide)
          have j2 := fin_s bX dX bY dY (by decide) (by decide) (by decide) (by decide)
          have j3 := dapart_s tX tY (by decide) (by decide) (by decide) (by decide)
          have j4 := fapart_s bX dX bY dY (by decide) (by decide) (by decide) (by decide)
          have s1 := dadds_s tX tY (by decide) (by decide) (by decide) (by decide)
          have s2 := fadd_s bX dX bY dY (by decide) (by decide) (by decide) (by decide)
          have bs : CB (cx + cy) 1321 := ⟨bX.1.add bY.1, bX.2.add bY.2⟩
          have s3 := fequal_s bs (dX.add dY) bs (dX.add dY) (by decide) (by decide) (by decide) (by decide)
          rw [decide_eq_true ⟨rfl, rfl⟩] at s3
          have n1 := dneg_s tX (by decide) (by decide)
          have n2 := rneg8 bX (by decide)
          have n3 := fequal_s bX.neg dX bX.neg dX (by decide) (by decide) (by decide) (by decide)
          rw [decide_eq_true ⟨rfl, rfl⟩] at n3
          have w1 := dgrow_s tX (by decide) (by decide) k (by omega) (by omega)
          rw [grown_eq k rX] at w1
          have w2 := fequal_s bX (dX.mul bk) bX (dX.mul bk) (by decide) (by decide) (by decide) (by decide)
          rw [decide_eq_true ⟨rfl, rfl⟩] at w2
          have e1 := dsames_s tX tY (by decide) (by decide) (by decide) (by decide)
          have e2 := fequal_s bX dX bY dY (by decide) (by decide) (by decide) (by decide)
          have t1 := dofc_s cW (by decide)
          have t2 := fequal_s cW.cb (DB.zero 0) cW.cb (DB.zero 0) (by decide) (by decide) (by decide) (by decide)
          rw [decide_eq_true ⟨rfl, rfl⟩, TI_0] at t2
          rw [TI_0] at t1
          clear tX tY cW bX bY dX dY rX rY m4 bs bk hW hX hY q1 q2 q3 pb qb
          have c9 : (200 < p ∧ p ≤ 4000) = False := eq_false q4
          have ck : min n 5 = k := hk.symm
          unfold TI at *
          by_cases q5 : 200 < p
          · have q6 : ¬ p ≤ 4000 := fun q => q4 ⟨q5, q⟩
            simp -implicitDefEqProofs only [go_sem, simprocAttr, -Int.reducePow, Tryz.f4, DD, q5, q6, ck, gt_iff_lt, ge_iff_le, List.take_succ_cons, List.drop_succ_cons]
            refine callK_q annuluslaw10_known.call (k0) rfl rfl ?_
            simp -implicitDefEqProofs only [go_sem, simprocAttr, -Int.reducePow, DD, q5, q6, ck, gt_iff_lt, ge_iff_le, List.take_succ_cons, List.drop_succ_cons]
            refine callK_q annuluslaw10_fewDisc.call (f1) rfl rfl ?_
            simp -implicitDefEqProofs only [go_sem, simprocAttr, -Int.reducePow, DD, q5, q6, ck, gt_iff_lt, ge_iff_le, List.take_succ_cons, List.drop_succ_cons]
            refine callK_q annuluslaw10_fewDisc.call (f2) rfl rfl ?_
            simp -implicitDefEqProofs only [go_sem, simprocAttr, -Int.reducePow, DD, q5, q6, ck, gt_iff_lt, ge_iff_le, List.take_succ_cons, List.drop_succ_cons]
            refine callK_q annuluslaw10_fewCplx.call (f3) rfl rfl ?_
            simp -implicitDefEqProofs only [go_sem, simprocAttr, -Int.reducePow, DD, q5, q6, ck, gt_iff_lt, ge_iff_le, List.take_succ_cons, List.drop_succ_cons]
            refine callK_q annulusref8_Disc.call (d1) rfl rfl ?_
            simp -implicitDefEqProofs only [go_sem, simprocAttr, -Int.reducePow, DD, q5, q6, ck, gt_iff_lt, ge_iff_le, List.take_succ_cons, List.drop_succ_cons]
            refine callK_q annulusref8_Disc.call (d2) rfl rfl ?_
            simp -implicitDefEqProofs only [go_sem, simprocAttr, -Int.reducePow, DD, q5, q6, ck, gt_iff_lt, ge_iff_le, List.take_succ_cons, List.drop_succ_cons]
            refine callK_q annulusref4_Of.call (o1) rfl rfl ?_
            simp -implicitDefEqProofs only [go_sem, simprocAttr, -Int.reducePow, DD, q5, q6, ck, gt_iff_lt, ge_iff_le, List.take_succ_cons, List.drop_succ_cons]
            refine callK_q annulusref4_Mul.call (o2) rfl rfl ?_
            simp -implicitDefEqProofs only [go_sem, simprocAttr, -Int.reducePow, DD, q5, q6, ck, gt_iff_lt, ge_iff_le, List.take_succ_cons, List.drop_succ_cons]
            refine callK_q disc_Is.call (i1) rfl rfl ?_
            simp -implicitDefEqProofs only [go_sem, simprocAttr, -Int.reducePow, DD, q5, q6, ck, gt_iff_lt, ge_iff_le, List.take_succ_cons, List.drop_succ_cons]
            refine callK_q annulusref4_Make.call (mk) rfl rfl ?_
            simp -implicitDefEqProofs only [go_sem, simprocAttr, -Int.reducePow, DD, q5, q6, ck, gt_iff_lt, ge_iff_le, List.take_succ_cons, List.drop_succ_cons]
            refine callK_q annulusref4_Sign.call (i2) rfl rfl ?_
            simp -implicitDefEqProofs only [go_sem, simprocAttr, -Int.reducePow, DD, q5, q6, ck, gt_iff_lt, ge_iff_le, List.take_succ_cons, List.drop_succ_cons]
            refine callK_q disc_Has.call (h1) rfl rfl ?_
            simp -implicitDefEqProofs only [go_sem, simprocAttr, -Int.reducePow, DD, q5, q6, ck, gt_iff_lt, ge_iff_le, List.take_succ_cons, List.drop_succ_cons]
            refine callK_q annulusref8_Cplx.call (h2) rfl rfl ?_
            simp -implicitDefEqProofs only [go_sem, simprocAttr, -Int.reducePow, DD, q5, q6, ck, gt_iff_lt, ge_iff_le, List.take_succ_cons, List.drop_succ_cons]
            refine callK_q annulusref8_Holds.call (h3) rfl rfl ?_
            simp -implicitDefEqProofs only [go_sem, simprocAttr, -Int.reducePow, DD, q5, q6, ck, gt_iff_lt, ge_iff_le, List.take_succ_cons, List.drop_succ_cons]
            refine callK_q disc_In.call (j1) rfl rfl ?_
            simp -implicitDefEqProofs only [go_sem, simprocAttr, -Int.reducePow, DD, q5, q6, ck, gt_iff_lt, ge_iff_le, List.take_succ_cons, List.drop_succ_cons]
            refine callK_q annulusref8_InDisc.call (j2) rfl rfl ?_
            simp -implicitDefEqProofs only [go_sem, simprocAttr, -Int.reducePow, DD, q5, q6, ck, gt_iff_lt, ge_iff_le, List.take_succ_cons, List.drop_succ_cons]
            refine callK_q disc_Apart.call (j3) rfl rfl ?_
            simp -implicitDefEqProofs only [go_sem, simprocAttr, -Int.reducePow, DD, q5, q6, ck, gt_iff_lt, ge_iff_le, List.take_succ_cons, List.drop_succ_cons]
            refine callK_q annulusref8_Apart.call (j4) rfl rfl ?_
            simp -implicitDefEqProofs only [go_sem, simprocAttr, -Int.reducePow, DD, q5, q6, ck, gt_iff_lt, ge_iff_le, List.take_succ_cons, List.drop_succ_cons]
            refine callK_q disc_Add.call (s1) rfl rfl ?_
            simp -implicitDefEqProofs only [go_sem, simprocAttr, -Int.reducePow, DD, q5, q6, ck, gt_iff_lt, ge_iff_le, List.take_succ_cons, List.drop_succ_cons]
            refine callK_q annulusref8_AddDisc.call (s2) rfl rfl ?_
            simp -implicitDefEqProofs only [go_sem, simprocAttr, -Int.reducePow, DD, q5, q6, ck, gt_iff_lt, ge_iff_le, List.take_succ_cons, List.drop_succ_cons]
            refine callK_q annulusref8_EqualDisc.call (s3) rfl rfl ?_
            simp -implicitDefEqProofs only [go_sem, simprocAttr, -Int.reducePow, DD, q5, q6, ck, gt_iff_lt, ge_iff_le, List.take_succ_cons, List.drop_succ_cons]
            refine callK_q disc_Neg.call (n1) rfl rfl ?_
            simp -implicitDefEqProofs only [go_sem, simprocAttr, -Int.reducePow, DD, q5, q6, ck, gt_iff_lt, ge_iff_le, List.take_succ_cons, List.drop_succ_cons]
            refine callK_q annulusref8_Neg.call (n2) rfl rfl ?_
            simp -implicitDefEqProofs only [go_sem, simprocAttr, -Int.reducePow, DD, q5, q6, ck, gt_iff_lt, ge_iff_le, List.take_succ_cons, List.drop_succ_cons]
            refine callK_q annulusref8_EqualDisc.call (n3) rfl rfl ?_
            simp -implicitDefEqProofs only [go_sem, simprocAttr, -Int.reducePow, DD, q5, q6, ck, gt_iff_lt, ge_iff_le, List.take_succ_cons, List.drop_succ_cons]
            refine callK_q disc_Mul.call (m5) rfl rfl ?_
            simp -implicitDefEqProofs only [go_sem, simprocAttr, -Int.reducePow, DD, q5, q6, ck, gt_iff_lt, ge_iff_le, List.take_succ_cons, List.drop_succ_cons]
            refine callK_q annulusref8_MulDisc.call (m6) rfl rfl ?_
            simp -implicitDefEqProofs only [go_sem, simprocAttr, -Int.reducePow, DD, q5, q6, ck, gt_iff_lt, ge_iff_le, List.take_succ_cons, List.drop_succ_cons]
            refine callK_q annulusref8_EqualDisc.call (m7) rfl rfl ?_
            simp -implicitDefEqProofs only [go_sem, simprocAttr, -Int.reducePow, DD, q5, q6, ck, gt_iff_lt, ge_iff_le, List.take_succ_cons, List.drop_succ_cons]
            refine callK_q disc_Pow.call (p1) rfl rfl ?_
            simp -implicitDefEqProofs only [go_sem, simprocAttr, -Int.reducePow, DD, q5, q6, ck, gt_iff_lt, ge_iff_le, List.take_succ_cons, List.drop_succ_cons]
            refine callK_q annulusref8_PowDisc.call (p2) rfl rfl ?_
            simp -implicitDefEqProofs only [go_sem, simprocAttr, -Int.reducePow, DD, q5, q6, ck, gt_iff_lt, ge_iff_le, List.take_succ_cons, List.drop_succ_cons]
            refine callK_q annulusref8_EqualDisc.call (p3) rfl rfl ?_
            simp -implicitDefEqProofs only [go_sem, simprocAttr, -Int.reducePow, DD, q5, q6, ck, gt_iff_lt, ge_iff_le, List.take_succ_cons, List.drop_succ_cons]
            refine callK_q disc_Far.call (g1) rfl rfl ?_
            simp -implicitDefEqProofs only [go_sem, simprocAttr, -Int.reducePow, DD, q5, q6, ck, gt_iff_lt, ge_iff_le, List.take_succ_cons, List.drop_succ_cons]
            refine callK_q annulusref8_Far.call (g2) rfl rfl ?_
            simp -implicitDefEqProofs only [go_sem, simprocAttr, -Int.reducePow, DD, q5, q6, ck, gt_iff_lt, ge_iff_le, List.take_succ_cons, List.drop_succ_cons]
            refine callK_q annulusref4_Equal.call (g3) rfl rfl ?_
            simp -implicitDefEqProofs only [go_sem, simprocAttr, -Int.reducePow, DD, q5, q6, ck, gt_iff_lt, ge_iff_le, List.take_succ_cons, List.drop_succ_cons]
            refine callK_q disc_Grow.call (w1) rfl rfl ?_
            simp -implicitDefEqProofs only [go_sem, simprocAttr, -Int.reducePow, DD, q5, q6, ck, gt_iff_lt, ge_iff_le, List.take_succ_cons, List.drop_succ_cons]
            refine callK_q annulusref8_EqualDisc.call (w2) rfl rfl ?_
            simp -implicitDefEqProofs only [go_sem, simprocAttr, -Int.reducePow, DD, q5, q6, ck, gt_iff_lt, ge_iff_le, List.take_succ_cons, List.drop_succ_cons]
            refine callK_q disc_Same.call (e1) rfl rfl ?_
            simp -implicitDefEqProofs only [go_sem, simprocAttr, -Int.reducePow, DD, q5, q6, ck, gt_iff_lt, ge_iff_le, List.take_succ_cons, List.drop_succ_cons]
            refine callK_q annulusref8_EqualDisc.call (e2) rfl rfl ?_
            simp -implicitDefEqProofs only [go_sem, simprocAttr, -Int.reducePow, DD, q5, q6, ck, gt_iff_lt, ge_iff_le, List.take_succ_cons, List.drop_succ_cons]
            refine callK_q disc_Of.call (t1) rfl rfl ?_
            simp -implicitDefEqProofs only [go_sem, simprocAttr, -Int.reducePow, DD, q5, q6, ck, gt_iff_lt, ge_iff_le, List.take_succ_cons, List.drop_succ_cons]
            refine callK_q annulusref8_Cplx.call (h2) rfl rfl ?_
            simp -implicitDefEqProofs only [go_sem, simprocAttr, -Int.reducePow, DD, q5, q6, ck, gt_iff_lt, ge_iff_le, List.take_succ_cons, List.drop_succ_cons]
            refine callK_q annulusref8_EqualDisc.call (t2) rfl rfl ?_
            simp -implicitDefEqProofs only [go_sem, simprocAttr, -Int.reducePow, DD, q5, q6, ck, gt_iff_lt, ge_iff_le, List.take_succ_cons, List.drop_succ_cons]
          · skip
            simp -implicitDefEqProofs only [go_sem, simprocAttr, -Int.reducePow, Tryz.f4, DD, q5, ck, gt_iff_lt, ge_iff_le, List.take_succ_cons, List.drop_succ_cons]
            refine callK_q annuluslaw10_known.call (k0) rfl rfl ?_
            simp -implicitDefEqProofs only [go_sem, simprocAttr, -Int.reducePow, DD, q5, ck, gt_iff_lt, ge_iff_le, List.take_succ_cons, List.drop_succ_cons]
            refine callK_q annuluslaw10_fewDisc.call (f1) rfl rfl ?_
            simp -implicitDefEqProofs only [go_sem, simprocAttr, -Int.reducePow, DD, q5, ck, gt_iff_lt, ge_iff_le, List.take_succ_cons, List.drop_succ_cons]
            refine callK_q annuluslaw10_fewDisc.call (f2) rfl rfl ?_
            simp -implicitDefEqProofs only [go_sem, simprocAttr, -Int.reducePow, DD, q5, ck, gt_iff_lt, ge_iff_le, List.take_succ_cons, List.drop_succ_cons]
            refine callK_q annuluslaw10_fewCplx.call (f3) rfl rfl ?_
            simp -implicitDefEqProofs only [go_sem, simprocAttr, -Int.reducePow, DD, q5, ck, gt_iff_lt, ge_iff_le, List.take_succ_cons, List.drop_succ_cons]
            refine callK_q annulusref8_Disc.call (d1) rfl rfl ?_
            simp -implicitDefEqProofs only [go_sem, simprocAttr, -Int.reducePow, DD, q5, ck, gt_iff_lt, ge_iff_le, List.take_succ_cons, List.drop_succ_cons]
            refine callK_q annulusref8_Disc.call (d2) rfl rfl ?_
            simp -implicitDefEqProofs only [go_sem, simprocAttr, -Int.reducePow, DD, q5, ck, gt_iff_lt, ge_iff_le, List.take_succ_cons, List.drop_succ_cons]
            refine callK_q annulusref4_Of.call (o1) rfl rfl ?_
            simp -implicitDefEqProofs only [go_sem, simprocAttr, -Int.reducePow, DD, q5, ck, gt_iff_lt, ge_iff_le, List.take_succ_cons, List.drop_succ_cons]
            refine callK_q annulusref4_Mul.call (o2) rfl rfl ?_
            simp -implicitDefEqProofs only [go_sem, simprocAttr, -Int.reducePow, DD, q5, ck, gt_iff_lt, ge_iff_le, List.take_succ_cons, List.drop_succ_cons]
            refine callK_q disc_Is.call (i1) rfl rfl ?_
            simp -implicitDefEqProofs only [go_sem, simprocAttr, -Int.reducePow, DD, q5, ck, gt_iff_lt, ge_iff_le, List.take_succ_cons, List.drop_succ_cons]
            refine callK_q annulusref4_Make.call (mk) rfl rfl ?_
            simp -implicitDefEqProofs only [go_sem, simprocAttr, -Int.reducePow, DD, q5, ck, gt_iff_lt, ge_iff_le, List.take_succ_cons, List.drop_succ_cons]
            refine callK_q annulusref4_Sign.call (i2) rfl rfl ?_
            simp -implicitDefEqProofs only [go_sem, simprocAttr, -Int.reducePow, DD, q5, ck, gt_iff_lt, ge_iff_le, List.take_succ_cons, List.drop_succ_cons]
            refine callK_q disc_Has.call (h1) rfl rfl ?_
            simp -implicitDefEqProofs only [go_sem, simprocAttr, -Int.reducePow, DD, q5, ck, gt_iff_lt, ge_iff_le, List.take_succ_cons, List.drop_succ_cons]
            refine callK_q annulusref8_Cplx.call (h2) rfl rfl ?_
            simp -implicitDefEqProofs only [go_sem, simprocAttr, -Int.reducePow, DD, q5, ck, gt_iff_lt, ge_iff_le, List.take_succ_cons, List.drop_succ_cons]
            refine callK_q annulusref8_Holds.call (h3) rfl rfl ?_
            simp -implicitDefEqProofs only [go_sem, simprocAttr, -Int.reducePow, DD, q5, ck, gt_iff_lt, ge_iff_le, List.take_succ_cons, List.drop_succ_cons]
            refine callK_q disc_In.call (j1) rfl rfl ?_
            simp -implicitDefEqProofs only [go_sem, simprocAttr, -Int.reducePow, DD, q5, ck, gt_iff_lt, ge_iff_le, List.take_succ_cons, List.drop_succ_cons]
            refine callK_q annulusref8_InDisc.call (j2) rfl rfl ?_
            simp -implicitDefEqProofs only [go_sem, simprocAttr, -Int.reducePow, DD, q5, ck, gt_iff_lt, ge_iff_le, List.take_succ_cons, List.drop_succ_cons]
            refine callK_q disc_Apart.call (j3) rfl rfl ?_
            simp -implicitDefEqProofs only [go_sem, simprocAttr, -Int.reducePow, DD, q5, ck, gt_iff_lt, ge_iff_le, List.take_succ_cons, List.drop_succ_cons]
            refine callK_q annulusref8_Apart.call (j4) rfl rfl ?_
            simp -implicitDefEqProofs only [go_sem, simprocAttr, -Int.reducePow, DD, q5, ck, gt_iff_lt, ge_iff_le, List.take_succ_cons, List.drop_succ_cons]
            refine callK_q disc_Add.call (s1) rfl rfl ?_
            simp -implicitDefEqProofs only [go_sem, simprocAttr, -Int.reducePow, DD, q5, ck, gt_iff_lt, ge_iff_le, List.take_succ_cons, List.drop_succ_cons]
            refine callK_q annulusref8_AddDisc.call (s2) rfl rfl ?_
            simp -implicitDefEqProofs only [go_sem, simprocAttr, -Int.reducePow, DD, q5, ck, gt_iff_lt, ge_iff_le, List.take_succ_cons, List.drop_succ_cons]
            refine callK_q annulusref8_EqualDisc.call (s3) rfl rfl ?_
            simp -implicitDefEqProofs only [go_sem, simprocAttr, -Int.reducePow, DD, q5, ck, gt_iff_lt, ge_iff_le, List.take_succ_cons, List.drop_succ_cons]
            refine callK_q disc_Neg.call (n1) rfl rfl ?_
            simp -implicitDefEqProofs only [go_sem, simprocAttr, -Int.reducePow, DD, q5, ck, gt_iff_lt, ge_iff_le, List.take_succ_cons, List.drop_succ_cons]
            refine callK_q annulusref8_Neg.call (n2) rfl rfl ?_
            simp -implicitDefEqProofs only [go_sem, simprocAttr, -Int.reducePow, DD, q5, ck, gt_iff_lt, ge_iff_le, List.take_succ_cons, List.drop_succ_cons]
            refine callK_q annulusref8_EqualDisc.call (n3) rfl rfl ?_
            simp -implicitDefEqProofs only [go_sem, simprocAttr, -Int.reducePow, DD, q5, ck, gt_iff_lt, ge_iff_le, List.take_succ_cons, List.drop_succ_cons]
            refine callK_q disc_Mul.call (m5) rfl rfl ?_
            simp -implicitDefEqProofs only [go_sem, simprocAttr, -Int.reducePow, DD, q5, ck, gt_iff_lt, ge_iff_le, List.take_succ_cons, List.drop_succ_cons]
            refine callK_q annulusref8_MulDisc.call (m6) rfl rfl ?_
            simp -implicitDefEqProofs only [go_sem, simprocAttr, -Int.reducePow, DD, q5, ck, gt_iff_lt, ge_iff_le, List.take_succ_cons, List.drop_succ_cons]
            refine callK_q annulusref8_EqualDisc.call (m7) rfl rfl ?_
            simp -implicitDefEqProofs only [go_sem, simprocAttr, -Int.reducePow, DD, q5, ck, gt_iff_lt, ge_iff_le, List.take_succ_cons, List.drop_succ_cons]
            refine callK_q disc_Pow.call (p1) rfl rfl ?_
            simp -implicitDefEqProofs only [go_sem, simprocAttr, -Int.reducePow, DD, q5, ck, gt_iff_lt, ge_iff_le, List.take_succ_cons, List.drop_succ_cons]
            refine callK_q annulusref8_PowDisc.call (p2) rfl rfl ?_
            simp -implicitDefEqProofs only [go_sem, simprocAttr, -Int.reducePow, DD, q5, ck, gt_iff_lt, ge_iff_le, List.take_succ_cons, List.drop_succ_cons]
            refine callK_q annulusref8_EqualDisc.call (p3) rfl rfl ?_
            simp -implicitDefEqProofs only [go_sem, simprocAttr, -Int.reducePow, DD, q5, ck, gt_iff_lt, ge_iff_le, List.take_succ_cons, List.drop_succ_cons]
            refine callK_q disc_Far.call (g1) rfl rfl ?_
            simp -implicitDefEqProofs only [go_sem, simprocAttr, -Int.reducePow, DD, q5, ck, gt_iff_lt, ge_iff_le, List.take_succ_cons, List.drop_succ_cons]
            refine callK_q annulusref8_Far.call (g2) rfl rfl ?_
            simp -implicitDefEqProofs only [go_sem, simprocAttr, -Int.reducePow, DD, q5, ck, gt_iff_lt, ge_iff_le, List.take_succ_cons, List.drop_succ_cons]
            refine callK_q annulusref4_Equal.call (g3) rfl rfl ?_
            simp -implicitDefEqProofs only [go_sem, simprocAttr, -Int.reducePow, DD, q5, ck, gt_iff_lt, ge_iff_le, List.take_succ_cons, List.drop_succ_cons]
            refine callK_q disc_Grow.call (w1) rfl rfl ?_
            simp -implicitDefEqProofs only [go_sem, simprocAttr, -Int.reducePow, DD, q5, ck, gt_iff_lt, ge_iff_le, List.take_succ_cons, List.drop_succ_cons]
            refine callK_q annulusref8_EqualDisc.call (w2) rfl rfl ?_
            simp -implicitDefEqProofs only [go_sem, simprocAttr, -Int.reducePow, DD, q5, ck, gt_iff_lt, ge_iff_le, List.take_succ_cons, List.drop_succ_cons]
            refine callK_q disc_Same.call (e1) rfl rfl ?_
            simp -implicitDefEqProofs only [go_sem, simprocAttr, -Int.reducePow, DD, q5, ck, gt_iff_lt, ge_iff_le, List.take_succ_cons, List.drop_succ_cons]
            refine callK_q annulusref8_EqualDisc.call (e2) rfl rfl ?_
            simp -implicitDefEqProofs only [go_sem, simprocAttr, -Int.reducePow, DD, q5, ck, gt_iff_lt, ge_iff_le, List.take_succ_cons, List.drop_succ_cons]
            refine callK_q disc_Of.call (t1) rfl rfl ?_
            simp -implicitDefEqProofs only [go_sem, simprocAttr, -Int.reducePow, DD, q5, ck, gt_iff_lt, ge_iff_le, List.take_succ_cons, List.drop_succ_cons]
            refine callK_q annulusref8_Cplx.call (h2) rfl rfl ?_
            simp -implicitDefEqProofs only [go_sem, simprocAttr, -Int.reducePow, DD, q5, ck, gt_iff_lt, ge_iff_le, List.take_succ_cons, List.drop_succ_cons]
            refine callK_q annulusref8_EqualDisc.call (t2) rfl rfl ?_
            simp -implicitDefEqProofs only [go_sem, simprocAttr, -Int.reducePow, DD, q5, ck, gt_iff_lt, ge_iff_le, List.take_succ_cons, List.drop_succ_cons]
      · rw [decide_eq_false q3] at f3
        simp -implicitDefEqProofs only [go_sem, simprocAttr, -Int.reducePow, Tryz.f4, DD, List.take_succ_cons, List.drop_succ_cons]
        refine callK_q annuluslaw10_known.call (k0) rfl rfl ?_
        simp -implicitDefEqProofs only [go_sem, simprocAttr, -Int.reducePow, DD, List.take_succ_cons, List.drop_succ_cons]
        refine callK_q annuluslaw10_fewDisc.call (f1) rfl rfl ?_
        simp -implicitDefEqProofs only [go_sem, simprocAttr, -Int.reducePow, DD, List.take_succ_cons, List.drop_succ_cons]
        refine callK_q annuluslaw10_fewDisc.call (f2) rfl rfl ?_
        simp -implicitDefEqProofs only [go_sem, simprocAttr, -Int.reducePow, DD, List.take_succ_cons, List.drop_succ_cons]
        refine callK_q annuluslaw10_fewCplx.call (f3) rfl rfl ?_
        simp -implicitDefEqProofs only [go_sem, simprocAttr, -Int.reducePow, DD, List.take_succ_cons, List.drop_succ_cons]
    · rw [decide_eq_false q2] at f2
      simp -implicitDefEqProofs only [go_sem, simprocAttr, -Int.reducePow, Tryz.f4, DD, List.take_succ_cons, List.drop_succ_cons]
      refine callK_q annuluslaw10_known.call (k0) rfl rfl ?_
      simp -implicitDefEqProofs only [go_sem, simprocAttr, -Int.reducePow, DD, List.take_succ_cons, List.drop_succ_cons]
      refine callK_q annuluslaw10_fewDisc.call (f1) rfl rfl ?_
      simp -implicitDefEqProofs only [go_sem, simprocAttr, -Int.reducePow, DD, List.take_succ_cons, List.drop_succ_cons]
      refine callK_q annuluslaw10_fewDisc.call (f2) rfl rfl ?_
      simp -implicitDefEqProofs only [go_sem, simprocAttr, -Int.reducePow, DD, List.take_succ_cons, List.drop_succ_cons]
  · rw [decide_eq_false q1] at f1
    simp -implicitDefEqProofs only [go_sem, simprocAttr, -Int.reducePow, Tryz.f4, DD, List.take_succ_cons, List.drop_succ_cons]
    refine callK_q annuluslaw10_known.call (k0) rfl rfl ?_
    simp -implicitDefEqProofs only [go_sem, simprocAttr, -Int.reducePow, DD, List.take_succ_cons, List.drop_succ_cons]
    refine callK_q annuluslaw10_fewDisc.call (f1) rfl rfl ?_
    simp -implicitDefEqProofs only [go_sem, simprocAttr, -Int.reducePow, DD, List.take_succ_cons, List.drop_succ_cons]
end Go.Ab

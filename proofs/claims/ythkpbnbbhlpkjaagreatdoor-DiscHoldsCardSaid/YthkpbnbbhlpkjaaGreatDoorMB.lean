/- Contracts of this seat's functions (of each call: what it answers), walked over the abstract machine, and the laws of numbers that they want. Conditions: those that each theorem states. -/
import Derived.Test.YthkpbnbbhlpkjaaGreatDoorM8
set_option linter.unusedVariables false
set_option maxRecDepth 20000
set_option linter.unusedSimpArgs false
set_option linter.unusedSectionVars false
namespace Go.Ab
open Go.Proofs
open Cx (zero one)
attribute [-go_sem] appF newsF
variable {a b : AV} {x y r s t : Dyadic} {z w c d e : Cx} {B C B' C' n m : Nat}
/-! the law of what is held -/
set_option maxHeartbeats 8000000 in
theorem discHolds_sat (X : RawT) (hX : X.ok ∧ (-9223372036854775808 ≤ X.q ∧ X.q ≤ 9223372036854775807)) (Y : RawT) (hY : Y.ok ∧ (-9223372036854775808 ≤ Y.q ∧ Y.q ≤ 9223372036854775807)) (S : Raw) (hS : S.ok) (T : Raw) (hT : T.ok) (u : Nat) (hu : u < 256) (n : Nat) (hn : n < 256) :
    Sat CT false 6 [.agg X.cells, .agg Y.cells, .agg S.cells, .agg T.cells, .v (.int .u8 (u : Nat)), .v (.int .u8 (n : Nat))] (Bo true) := by
  refine sat_of annuluslaw10_DiscHolds.ok (by simp) ?_
  have DD := annuluslaw10_DiscHolds.dr
  simp only [drP, drPx, drPt, drR, drS, drT, bodyOf, Tryz.f6, Nat.reduceEqDiff, reduceIte, true_and, and_true] at DD
  have k0 := known10_s
  obtain ⟨⟨xn, xl, xe, xm, xk, xf⟩, xo, xp, xq⟩ := X
  obtain ⟨⟨yn, yl, ye, ym, yk, yf⟩, yo, yp, yq⟩ := Y
  obtain ⟨sn, sl, se, sm, sk, sf⟩ := S
  obtain ⟨tn, tl, te, tm, tk, tf⟩ := T
  have f1 := fewD_s ⟨⟨xn, xl, xe, xm, xk, xf⟩, xo, xp, xq⟩
  have f2 := fewD_s ⟨⟨yn, yl, ye, ym, yk, yf⟩, yo, yp, yq⟩
  have f3 := fewC_s sn sl se sm sk sf
  have f4 := fewC_s tn tl te tm tk tf
  simp only [RawT.cells, Raw.cells] at *
  by_cases q1 : RawT.few ⟨⟨xn, xl, xe, xm, xk, xf⟩, xo, xp, xq⟩
  · rw [decide_eq_true q1] at f1
    by_cases q2 : RawT.few ⟨⟨yn, yl, ye, ym, yk, yf⟩, yo, yp, yq⟩
    · rw [decide_eq_true q2] at f2
      by_cases q3 : few1 sl se ∧ few1 sk sf
      · rw [decide_eq_true q3] at f3
        by_cases q4 : few1 tl te ∧ few1 tk tf
        · rw [decide_eq_true q4] at f4
          have tX := RawT.rt hX.1 q1
          have tY := RawT.rt hY.1 q2
          have cS := Raw.rc10 hS q3
          have cT := Raw.rc10 hT q4
          simp only [RawT.cells, Raw.cells] at *
          generalize RawT.rd ⟨⟨xn, xl, xe, xm, xk, xf⟩, xo, xp, xq⟩ = rx at *
          generalize RawT.rd ⟨⟨yn, yl, ye, ym, yk, yf⟩, yo, yp, yq⟩ = ry at *
          generalize Raw.z ⟨xn, xl, xe, xm, xk, xf⟩ = cx at *
          generalize Raw.z ⟨yn, yl, ye, ym, yk, yf⟩ = cy at *
          generalize Raw.z ⟨sn, sl, se, sm, sk, sf⟩ = cs at *
          generalize Raw.z ⟨tn, tl, te, tm, tk, tf⟩ = ct at *
          have hs := dhas_s tX cS (by decide) (by decide) (by decide)
          by_cases q5 : hasP cx (rp rx) cs
          · rw [decide_eq_true q5] at hs
            have rX := rp_nn rx
            have rY := rp_nn ry
            have bX := tX.cb
            have bY := tY.cb
            have dX := rp_db tX.db
            have dY := rp_db tY.db
            have bS := cS.cb
            have bT := cT.cb
            obtain ⟨p, hp⟩ : ∃ p : Int, p = ((u : Int)).tmod 100 + 1 := ⟨_, rfl⟩
            obtain ⟨k, hk⟩ : ∃ k : Int, k = ((n : Int)).tmod 4 := ⟨_, rfl⟩
            have hp1 : 1 ≤ p ∧ p ≤ 100 := by
              have e1 : ((u : Int)).tmod 100 = ((u % 100 : Nat) : Int) := by rw [Int.natCast_emod]; exact Int.tmod_eq_emod_of_nonneg (by omega)
              omega
            have hk1 : 0 ≤ k ∧ k ≤ 3 := by
              have e1 : ((n : Int)).tmod 4 = ((n % 4 : Nat) : Int) := by rw [Int.natCast_emod]; exact Int.tmod_eq_emod_of_nonneg (by omega)
              omega
            have w1 : IntKind.i64.wrap (((u : Int)).tmod 100) = p - 1 := by rw [wrap_id (by omega)]; omega
            have w2 : IntKind.i64.wrap (p - 1 + 1) = p := by rw [wrap_id (by omega)]; omega
            have w3 : IntKind.i64.wrap (((n : Int)).tmod 4) = k := by rw [wrap_id (by omega)]; omega
            have w4 : IntKind.u8.wrap (((u : Int)).tmod 100) = ((u : Int)).tmod 100 := by
              have e1 : ((u : Int)).tmod 100 = p - 1 := by omega
              rw [e1]
              unfold IntKind.wrap; simp [IntKind.bits, IntKind.signed]; omega
            have w5 : IntKind.u8.wrap (((n : Int)).tmod 4) = ((n : Int)).tmod 4 := by
              have e1 : ((n : Int)).tmod 4 = k := by omega
              rw [e1]
              unfold IntKind.wrap; simp [IntKind.bits, IntKind.signed]; omega
            have hP : heldP p ≤ 100 := by unfold heldP; omega
            have hP1 := (heldP_v p).2.2.1
            have c1 := rcplx_r cS (by decide)
            have c2 := rcplx_r cT (by decide)
            have i1 := din_s tX tY (by decide) (by decide) (by decide) (by decide)
            have i2 := dhas_s tY cS (by decide) (by decide) (by decide)
            have i3 := dapart_s tX tY (by decide) (by decide) (by decide) (by decide)
            have p1 := dpow_s tX (by decide) k p (by omega) (by omega)
            have p2 := fpw8_s bS (by decide) k (by omega)
            have hk5 : k.toNat ≤ 3 := by omega
            have pl : k.toNat * (1320 + 1) ≤ 3 * 1321 := Nat.mul_le_mul hk5 (by decide)
            have pb := cpw_db bX k.toNat
            have ps := cpw_db bS k.toNat
            have ql : k.toNat * (1320 + heldP p + 8) ≤ 3 * 1428 := Nat.mul_le_mul hk5 (by omega)
            have qb := rpw_db bX dX hP1 k.toNat
            have p3 := dhas_s (RT_T pb qb) (RC_C ps) (by omega) (by omega) (by omega)
            rw [rp_id (rpw_nn rX hP1 k.toNat), decide_eq_true (has_pow rX hP1 q5 k.toNat)] at p3
            have n1 := dneg_s tX (by decide) (by decide)
            have n2 := rneg8 bS (by decide)
            have n3 := dhas_s (RT_T bX.neg dX) (RC_C bS.neg) (by decide) (by decide) (by decide)
            rw [rp_rp, decide_eq_true (has_neg q5)] at n3
            have j1 := dhas_s tY cT (by decide) (by decide) (by decide)
            have s1 := dadds_s tX tY (by decide) (by decide) (by decide) (by decide)
            have s2 := radd8 bS bT (by decide) (by decide)
            have bs : CB (cx + cy) 1321 := ⟨bX.1.add bY.1, bX.2.add bY.2⟩
            have bt : CB (cs + ct) 1321 := ⟨bS.1.add bT.1, bS.2.add bT.2⟩
            have s3 := dhas_s (RT_T bs (dX.add dY)) (RC_C bt) (by decide) (by decide) (by decide)
            rw [rp_id (nn_add rX rY)] at s3
            have m1 := dmuls_s tX tY (by decide) (by decide) (by decide) (by decide) p (K := 3000) (by omega) (by omega) (by decide) (by decide)
            have m2 := rmul8 bS bT (by decide)
            have mb := mrad_db bX dX bY dY hP1 (K := 3000) (by omega) (by omega) (by decide)
            have m3 := dhas_s (RT_T (bX.mul bY) mb) (RC_C (bS.mul bT)) (by decide) (by decide) (by decide)
            rw [rp_id (show 0 ≤ (mrad cx (rp rx) cy (rp ry) (heldP p)).toRat from upr_nn hP1 (mra_nn rX rY hP1))] at m3
            have g1 : hasP cy (rp ry) ct → hasP (cx + cy) (rp rx + rp ry) (cs + ct) := fun q => has_add rX rY q5 q
            have g2 : hasP cy (rp ry) ct → hasP (cx * cy) (mrad cx (rp rx) cy (rp ry) (heldP p)) (cs * ct) := fun q => has_mul rX rY hP1 q5 q
            have g3 : inP cx (rp rx) cy (rp ry) → hasP cy (rp ry) cs := fun q => in_has rX q q5
            have g4 : inP cx (rp rx) cy (rp ry) → ¬ apP cx (rp rx) cy (rp ry) := fun q => in_nap rX q
            have g5 : apP cx (rp rx) cy (rp ry) → ¬ hasP cy (rp ry) cs := fun q => ap_has rX rY q q5
            clear pb qb ps pl ql bs bt mb tX tY cS cT bX bY dX dY bS bT rX rY hX hY hS hT q1 q2 q3 q4 hp1 hk1 hp hk hk5 hP hP1 hu hn
            unfold TI at *
            by_cases qA : inP cx (rp rx) cy (rp ry)
            · rw [decide_eq_true (g3 qA)] at i2
              rw [decide_eq_false (g4 qA)] at i3
              rw [decide_eq_true qA] at i1
              by_cases qC : hasP cy (rp ry) ct
              · rw [decide_eq_true qC] at j1
                rw [decide_eq_true (g1 qC)] at s3
                rw [decide_eq_true (g2 qC)] at m3
                simp -implicitDefEqProofs only [go_sem, simprocAttr, -Int.reducePow, Tryz.f6, DD, w1, w2, w3, w4, w5, List.take_succ_cons, List.drop_succ_cons]
                refine callK_q annuluslaw10_known.call (k0) rfl rfl ?_
                simp -implicitDefEqProofs only [go_sem, simprocAttr, -Int.reducePow, DD, w1, w2, w3, w4, w5, List.take_succ_cons, List.drop_succ_cons]
                refine callK_q annuluslaw10_fewDisc.call (f1) rfl rfl ?_
                simp -implicitDefEqProofs only [go_sem, simprocAttr, -Int.reducePow, DD, w1, w2, w3, w4, w5, List.take_succ_cons, List.drop_succ_cons]
                refine callK_q annuluslaw10_fewDisc.call (f2) rfl rfl ?_
                simp -implicitDefEqProofs only [go_sem, simprocAttr, -Int.reducePow, DD, w1, w2, w3, w4, w5, List.take_succ_cons, List.drop_succ_cons]
                refine callK_q annuluslaw10_fewCplx.call (f3) rfl rfl ?_
                simp -implicitDefEqProofs only [go_sem, simprocAttr, -Int.reducePow, DD, w1, w2, w3, w4, w5, List.take_succ_cons, List.drop_succ_cons]
                refine callK_q annuluslaw10_fewCplx.call (f4) rfl rfl ?_
                simp -implicitDefEqProofs only [go_sem, simprocAttr, -Int.reducePow, DD, w1, w2, w3, w4, w5, List.take_succ_cons, List.drop_succ_cons]
                refine callK_q disc_Has.call (hs) rfl rfl ?_
                simp -implicitDefEqProofs only [go_sem, simprocAttr, -Int.reducePow, DD, w1, w2, w3, w4, w5, List.take_succ_cons, List.drop_succ_cons]
                refine callK_q annulusref8_Cplx.call (c1) rfl rfl ?_
                simp -implicitDefEqProofs only [go_sem, simprocAttr, -Int.reducePow, DD, w1, w2, w3, w4, w5, List.take_succ_cons, List.drop_succ_cons]
                refine callK_q annulusref8_Cplx.call (c2) rfl rfl ?_
                simp -implicitDefEqProofs only [go_sem, simprocAttr, -Int.reducePow, DD, w1, w2, w3, w4, w5, List.take_succ_cons, List.drop_succ_cons]
                refine callK_q disc_In.call (i1) rfl rfl ?_
                simp -implicitDefEqProofs only [go_sem, simprocAttr, -Int.reducePow, DD, w1, w2, w3, w4, w5, List.take_succ_cons, List.drop_succ_cons]
                refine callK_q disc_Has.call (i2) rfl rfl ?_
                simp -implicitDefEqProofs only [go_sem, simprocAttr, -Int.reducePow, DD, w1, w2, w3, w4, w5, List.take_succ_cons, List.drop_succ_cons]
                refine callK_q disc_Apart.call (i3) rfl rfl ?_
                simp -implicitDefEqProofs only [go_sem, simprocAttr, -Int.reducePow, DD, w1, w2, w3, w4, w5, List.take_succ_cons, List.drop_succ_cons]
                refine callK_q disc_Pow.call (p1) rfl rfl ?_
                simp -implicitDefEqProofs only [go_sem, simprocAttr, -Int.reducePow, DD, w1, w2, w3, w4, w5, List.take_succ_cons, List.drop_succ_cons]
                refine callK_q annulusref8_Pow.call (p2) rfl rfl ?_
                simp -implicitDefEqProofs only [go_sem, simprocAttr, -Int.reducePow, DD, w1, w2, w3, w4, w5, List.take_succ_cons, List.drop_succ_cons]
                refine callK_q disc_Has.call (p3) rfl rfl ?_
                simp -implicitDefEqProofs only [go_sem, simprocAttr, -Int.reducePow, DD, w1, w2, w3, w4, w5, List.take_succ_cons, List.drop_succ_cons]
                refine callK_q disc_Neg.call (n1) rfl rfl ?_
                simp -implicitDefEqProofs only [go_sem, simprocAttr, -Int.reducePow, DD, w1, w2, w3, w4, w5, List.take_succ_cons, List.drop_succ_cons]
                refine callK_q annulusref8_Neg.call (n2) rfl rfl ?_
                simp -implicitDefEqProofs only [go_sem, simprocAttr, -Int.reducePow, DD, w1, w2, w3, w4, w5, List.take_succ_cons, List.drop_succ_cons]
                refine callK_q disc_Has.call (n3) rfl rfl ?_
                simp -implicitDefEqProofs only [go_sem, simprocAttr, -Int.reducePow, DD, w1, w2, w3, w4, w5, List.take_succ_cons, List.drop_succ_cons]
                refine callK_q disc_Has.call (j1) rfl rfl ?_
                simp -implicitDefEqProofs only [go_sem, simprocAttr, -Int.reducePow, DD, w1, w2, w3, w4, w5, List.take_succ_cons, List.drop_succ_cons]
                refine callK_q disc_Add.call (s1) rfl rfl ?_
                simp -implicitDefEqProofs only [go_sem, simprocAttr, -Int.reducePow, DD, w1, w2, w3, w4, w5, List.take_succ_cons, List.drop_succ_cons]
                refine callK_q annulusref8_Add.call (s2) rfl rfl ?_
                simp -implicitDefEqProofs only [go_sem, simprocAttr, -Int.reducePow, DD, w1, w2, w3, w4, w5, List.take_succ_cons, List.drop_succ_cons]
                refine callK_q disc_Has.call (s3) rfl rfl ?_
                simp -implicitDefEqProofs only [go_sem, simprocAttr, -Int.reducePow, DD, w1, w2, w3, w4, w5, List.take_succ_cons, List.drop_succ_cons]
                refine callK_q disc_Mul.call (m1) rfl rfl ?_
                simp -implicitDefEqProofs only [go_sem, simprocAttr, -Int.reducePow, DD, w1, w2, w3, w4, w5, List.take_succ_cons, List.drop_succ_cons]
                refine callK_q annulusref8_Mul.call (m2) rfl rfl ?_
                simp -implicitDefEqProofs only [go_sem, simprocAttr, -Int.reducePow, DD, w1, w2, w3, w4, w5, List.take_succ_cons, List.drop_succ_cons]
                refine callK_q disc_Has.call (m3) rfl rfl ?_
                simp -implicitDefEqProofs only [go_sem, simprocAttr, -Int.reducePow, DD, w1, w2, w3, w4, w5, List.take_succ_cons, List.drop_succ_cons]
              · rw [decide_eq_false qC] at j1
                simp -implicitDefEqProofs only [go_sem, simprocAttr, -Int.reducePow, Tryz.f6, DD, w1, w2, w3, w4, w5, List.take_succ_cons, List.drop_succ_cons]
                refine callK_q annuluslaw10_known.call (k0) rfl rfl ?_
                simp -implicitDefEqProofs only [go_sem, simprocAttr, -Int.reducePow, DD, w1, w2, w3, w4, w5, List.take_succ_cons, List.drop_succ_cons]
                refine callK_q annuluslaw10_fewDisc.call (f1) rfl rfl ?_
                simp -implicitDefEqProofs only [go_sem, simprocAttr, -Int.reducePow, DD, w1, w2, w3, w4, w5, List.take_succ_cons, List.drop_succ_cons]
                refine callK_q annuluslaw10_fewDisc.call (f2) rfl rfl ?_
                simp -implicitDefEqProofs only [go_sem, simprocAttr, -Int.reducePow, DD, w1, w2, w3, w4, w5, List.take_succ_cons, List.drop_succ_cons]
                refine callK_q annuluslaw10_fewCplx.call (f3) rfl rfl ?_
                simp -implicitDefEqProofs only [go_sem, simprocAttr, -Int.reducePow, DD, w1, w2, w3, w4, w5, List.take_succ_cons, List.drop_succ_cons]
                refine callK_q annuluslaw10_fewCplx.call (f4) rfl rfl ?_
                simp -implicitDefEqProofs only [go_sem, simprocAttr, -Int.reducePow, DD, w1, w2, w3, w4, w5, List.take_succ_cons, List.drop_succ_cons]
                refine callK_q disc_Has.call (hs) rfl rfl ?_
                simp -implicitDefEqProofs only [go_sem, simprocAttr, -Int.reducePow, DD, w1, w2, w3, w4, w5, List.take_succ_cons, List.drop_succ_cons]
                refine callK_q annulusref8_Cplx.call (c1) rfl rfl ?_
                simp -implicitDefEqProofs only [go_sem, simprocAttr, -Int.reducePow, DD, w1, w2, w3, w4, w5, List.take_succ_cons, List.drop_succ_cons]
                refine callK_q annulusref8_Cplx.call (c2) rfl rfl ?_
                simp -implicitDefEqProofs only [go_sem, simprocAttr, -Int.reducePow, DD, w1, w2, w3, w4, w5, List.take_succ_cons, List.drop_succ_cons]
                refine callK_q disc_In.call (i1) rfl rfl ?_
                simp -implicitDefEqProofs only [go_sem, simprocAttr, -Int.reducePow, DD, w1, w2, w3, w4, w5, List.take_succ_cons, List.drop_succ_cons]
                refine callK_q disc_Has.call (i2) rfl rfl ?_
                simp -implicitDefEqProofs only [go_sem, simprocAttr, -Int.reducePow, DD, w1, w2, w3, w4, w5, List.take_succ_cons, List.drop_succ_cons]
                refine callK_q disc_Apart.call (i3) rfl rfl ?_
                simp -implicitDefEqProofs only [go_sem, simprocAttr, -Int.reducePow, DD, w1, w2, w3, w4, w5, List.take_succ_cons, List.drop_succ_cons]
                refine callK_q disc_Pow.call (p1) rfl rfl ?_
                simp -implicitDefEqProofs only [go_sem, simprocAttr, -Int.reducePow, DD, w1, w2, w3, w4, w5, List.take_succ_cons, List.drop_succ_cons]
                refine callK_q annulusref8_Pow.call (p2) rfl rfl ?_
                simp -implicitDefEqProofs only [go_sem, simprocAttr, -Int.reducePow, DD, w1, w2, w3, w4, w5, List.take_succ_cons, List.drop_succ_cons]
                refine callK_q disc_Has.call (p3) rfl rfl ?_
                simp -implicitDefEqProofs only [go_sem, simprocAttr, -Int.reducePow, DD, w1, w2, w3, w4, w5, List.take_succ_cons, List.drop_succ_cons]
                refine callK_q disc_Neg.call (n1) rfl rfl ?_
                simp -implicitDefEqProofs only [go_sem, simprocAttr, -Int.reducePow, DD, w1, w2, w3, w4, w5, List.take_succ_cons, List.drop_succ_cons]
                refine callK_q annulusref8_Neg.call (n2) rfl rfl ?_
                simp -implicitDefEqProofs only [go_sem, simprocAttr, -Int.reducePow, DD, w1, w2, w3, w4, w5, List.take_succ_cons, List.drop_succ_cons]
                refine callK_q disc_Has.call (n3) rfl rfl ?_
                simp -implicitDefEqProofs only [go_sem, simprocAttr, -Int.reducePow, DD, w1, w2, w3, w4, w5, List.take_succ_cons, List.drop_succ_cons]
                refine callK_q disc_Has.call (j1) rfl rfl ?_
                simp -implicitDefEqProofs only [go_sem, simprocAttr, -Int.reducePow, DD, w1, w2, w3, w4, w5, List.take_succ_cons, List.drop_succ_cons]
            · rw [decide_eq_false qA] at i1
              by_cases qB : apP cx (rp rx) cy (rp ry)
              · rw [decide_eq_true qB] at i3
                rw [decide_eq_false (g5 qB)] at i2
                by_cases qC : hasP cy (rp ry) ct
                · rw [decide_eq_true qC] at j1
                  rw [decide_eq_true (g1 qC)] at s3
                  rw [decide_eq_true (g2 qC)] at m3
                  simp -implicitDefEqProofs only [go_sem, simprocAttr, -Int.reducePow, Tryz.f6, DD, w1, w2, w3, w4, w5, List.take_succ_cons, List.drop_succ_cons]
                  refine callK_q annuluslaw10_known.call (k0) rfl rfl ?_
                  simp -implicitDefEqProofs only [go_sem, simprocAttr, -Int.reducePow, DD, w1, w2, w3, w4, w5, List.take_succ_cons, List.drop_succ_cons]
                  refine callK_q annuluslaw10_fewDisc.call (f1) rfl rfl ?_
                  simp -implicitDefEqProofs only [go_sem, simprocAttr, -Int.reducePow, DD, w1, w2, w3, w4, w5, List.take_succ_cons, List.drop_succ_cons]
                  refine callK_q annuluslaw10_fewDisc.call (f2) rfl rfl ?_
                  simp -implicitDefEqProofs only [go_sem, simprocAttr, -Int.reducePow, DD, w1, w2, w3, w4, w5, List.take_succ_cons, List.drop_succ_cons]
                  refine callK_q annuluslaw10_fewCplx.call (f3) rfl rfl ?_
                  simp -implicitDefEqProofs only [go_sem, simprocAttr, -Int.reducePow, DD, w1, w2, w3, w4, w5, List.take_succ_cons, List.drop_succ_cons]
                  refine callK_q annuluslaw10_fewCplx.call (f4) rfl rfl ?_
                  simp -implicitDefEqProofs only [go_sem, simprocAttr, -Int.reducePow, DD, w1, w2, w3, w4, w5, List.take_succ_cons, List.drop_succ_cons]
                  refine callK_q disc_Has.call (hs) rfl rfl ?_
                  simp -implicitDefEqProofs only [go_sem, simprocAttr, -Int.reducePow, DD, w1, w2, w3, w4, w5, List.take_succ_cons, List.drop_succ_cons]
                  refine callK_q annulusref8_Cplx.call (c1) rfl rfl ?_
                  simp -implicitDefEqProofs only [go_sem, simprocAttr, -Int.reducePow, DD, w1, w2, w3, w4, w5, List.take_succ_cons, List.drop_succ_cons]
                  refine callK_q annulusref8_Cplx.call (c2) rfl rfl ?_
                  simp -implicitDefEqProofs only [go_sem, simprocAttr, -Int.reducePow, DD, w1, w2, w3, w4, w5, List.take_succ_cons, List.drop_succ_cons]
                  refine callK_q disc_In.call (i1) rfl rfl ?_
                  simp -implicitDefEqProofs only [go_sem, simprocAttr, -Int.reducePow, DD, w1, w2, w3, w4, w5, List.take_succ_cons, List.drop_succ_cons]
                  refine callK_q disc_Apart.call (i3) rfl rfl ?_
                  simp -implicitDefEqProofs only [go_sem, simprocAttr, -Int.reducePow, DD, w1, w2, w3, w4, w5, List.take_succ_cons, List.drop_succ_cons]
                  refine callK_q disc_Has.call (i2) rfl rfl ?_
                  simp -implicitDefEqProofs only [go_sem, simprocAttr, -Int.reducePow, DD, w1, w2, w3, w4, w5, List.take_succ_cons, List.drop_succ_cons]
                  refine callK_q disc_Pow.call (p1) rfl rfl ?_
                  simp -implicitDefEqProofs only [go_sem, simprocAttr, -Int.reducePow, DD, w1, w2, w3, w4, w5, List.take_succ_cons, List.drop_succ_cons]
                  refine callK_q annulusref8_Pow.call (p2) rfl rfl ?_
                  simp -implicitDefEqProofs only [go_sem, simprocAttr, -Int.reducePow, DD, w1, w2, w3, w4, w5, List.take_succ_cons, List.drop_succ_cons]
                  refine callK_q disc_Has.call (p3) rfl rfl ?_
                  simp -implicitDefEqProofs only [go_sem, simprocAttr, -Int.reducePow, DD, w1, w2, w3, w4, w5, List.take_succ_cons, List.drop_succ_cons]
                  refine callK_q disc_Neg.call (n1) rfl rfl ?_
                  simp -implicitDefEqProofs only [go_sem, simprocAttr, -Int.reducePow, DD, w1, w2, w3, w4, w5, List.take_succ_cons, List.drop_succ_cons]
                  refine callK_q annulusref8_Neg.call (n2) rfl rfl ?_
                  simp -implicitDefEqProofs only [go_sem, simprocAttr, -Int.reducePow, DD, w1, w2, w3, w4, w5, List.take_succ_cons, List.drop_succ_cons]
                  refine callK_q disc_Has.call (n3) rfl rfl ?_
                  simp -implicitDefEqProofs only [go_sem, simprocAttr, -Int.reducePow, DD, w1, w2, w3, w4, w5, List.take_succ_cons, List.drop_succ_cons]
                  refine callK_q disc_Has.call (j1) rfl rfl ?_
                  simp -implicitDefEqProofs only [go_sem, simprocAttr, -Int.reducePow, DD, w1, w2, w3, w4, w5, List.take_succ_cons, List.drop_succ_cons]
                  refine callK_q disc_Add.call (s1) rfl rfl ?_
                  simp -implicitDefEqProofs only [go_sem, simprocAttr, -Int.reducePow, DD, w1, w2, w3, w4, w5, List.take_succ_cons, List.drop_succ_cons]
                  refine callK_q annulusref8_Add.call (s2) rfl rfl ?_
                  simp -implicitDefEqProofs only [go_sem, simprocAttr, -Int.reducePow, DD, w1, w2, w3, w4, w5, List.take_succ_cons, List.drop_succ_cons]
                  refine callK_q disc_Has.call (s3) rfl rfl ?_
                  simp -implicitDefEqProofs only [go_sem, simprocAttr, -Int.reducePow, DD, w1, w2, w3, w4, w5, List.take_succ_cons, List.drop_succ_cons]
                  refine callK_q disc_Mul.call (m1) rfl rfl ?_
                  simp -implicitDefEqProofs only [go_sem, simprocAttr, -Int.reducePow, DD, w1, w2, w3, w4, w5, List.take_succ_cons, List.drop_succ_cons]
                  refine callK_q annulusref8_Mul.call (m2) rfl rfl ?_
                  simp -implicitDefEqProofs only [go_sem, simprocAttr, -Int.reducePow, DD, w1, w2, w3, w4, w5, List.take_succ_cons, List.drop_succ_cons]
                  refine callK_q disc_Has.call (m3) rfl rfl ?_
                  simp -implicitDefEqProofs only [go_sem, simprocAttr, -Int.reducePow, DD, w1, w2, w3, w4, w5, List.take_succ_cons, List.drop_succ_cons]
                · rw [decide_eq_false qC] at j1
                  simp -implicitDefEqProofs only [go_sem, simprocAttr, -Int.reducePow, Tryz.f6, DD, w1, w2, w3, w4, w5, List.take_succ_cons, List.drop_succ_cons]
                  refine callK_q annuluslaw10_known.call (k0) rfl rfl ?_
                  simp -implicitDefEqProofs only [go_sem, simprocAttr, -Int.reducePow, DD, w1, w2, w3, w4, w5, List.take_succ_cons, List.drop_succ_cons]
                  refine callK_q annuluslaw10_fewDisc.call (f1) rfl rfl ?_
                  simp -implicitDefEqProofs only [go_sem, simprocAttr, -Int.reducePow, DD, w1, w2, w3, w4, w5, List.take_succ_cons, List.drop_succ_cons]
                  refine callK_q annuluslaw10_fewDisc.call (f2) rfl rfl ?_
                  simp -implicitDefEqProofs only [go_sem, simprocAttr, -Int.reducePow, DD, w1, w2, w3, w4, w5, List.take_succ_cons, List.drop_succ_cons]
                  refine callK_q annuluslaw10_fewCplx.call (f3) rfl rfl ?_
                  simp -implicitDefEqProofs only [go_sem, simprocAttr, -Int.reducePow, DD, w1, w2, w3, w4, w5, List.take_succ_cons, List.drop_succ_cons]
                  refine callK_q annuluslaw10_fewCplx.call (f4) rfl rfl ?_
                  simp -implicitDefEqProofs only [go_sem, simprocAttr, -Int.reducePow, DD, w1, w2, w3, w4, w5, List.take_succ_cons, List.drop_succ_cons]
                  refine callK_q disc_Has.call (hs) rfl rfl ?_
                  simp -implicitDefEqProofs only [go_sem, simprocAttr, -Int.reducePow, DD, w1, w2, w3, w4, w5, List.take_succ_cons, List.drop_succ_cons]
                  refine callK_q annulusref8_Cplx.call (c1) rfl rfl ?_
                  simp -implicitDefEqProofs only [go_sem, simprocAttr, -Int.reducePow, DD, w1, w2, w3, w4, w5, List.take_succ_cons, List.drop_succ_cons]
                  refine callK_q annulusref8_Cplx.call (c2) rfl rfl ?_
                  simp -implicitDefEqProofs only [go_sem, simprocAttr, -Int.reducePow, DD, w1, w2, w3, w4, w5, List.take_succ_cons, List.drop_succ_cons]
                  refine callK_q disc_In.call (i1) rfl rfl ?_
                  simp -implicitDefEqProofs only [go_sem, simprocAttr, -Int.reducePow, DD, w1, w2, w3, w4, w5, List.take_succ_cons, List.drop_succ_cons]
                  refine callK_q disc_Apart.call (i3) rfl rfl ?_
                  simp -implicitDefEqProofs only [go_sem, simprocAttr, -Int.reducePow, DD, w1, w2, w3, w4, w5, List.take_succ_cons, List.drop_succ_cons]
                  refine callK_q disc_Has.call (i2) rfl rfl ?_
                  simp -implicitDefEqProofs only [go_sem, simprocAttr, -Int.reducePow, DD, w1, w2, w3, w4, w5, List.take_succ_cons, List.drop_succ_cons]
                  refine callK_q disc_Pow.call (p1) rfl rfl ?_
                  simp -implicitDefEqProofs only [go_sem, simprocAttr, -Int.reducePow, DD, w1, w2, w3, w4, w5, List.take_succ_cons, List.drop_succ_cons]
                  refine callK_q annulusref8_Pow.call (p2) rfl rfl ?_
                  simp -implicitDefEqProofs only [go_sem, simprocAttr, -Int.reducePow, DD, w1, w2, w3, w4, w5, List.take_succ_cons, List.drop_succ_cons]
                  refine callK_q disc_Has.call (p3) rfl rfl ?_
                  simp -implicitDefEqProofs only [go_sem, simprocAttr, -Int.reducePow, DD, w1, w2, w3, w4, w5, List.take_succ_cons, List.drop_succ_cons]
                  refine callK_q disc_Neg.call (n1) rfl rfl ?_
                  simp -implicitDefEqProofs only [go_sem, simprocAttr, -Int.reducePow, DD, w1, w2, w3, w4, w5, List.take_succ_cons, List.drop_succ_cons]
                  refine callK_q annulusref8_Neg.call (n2) rfl rfl ?_
                  simp -implicitDefEqProofs only [go_sem, simprocAttr, -Int.reducePow, DD, w1, w2, w3, w4, w5, List.take_succ_cons, List.drop_succ_cons]
                  refine callK_q disc_Has.call (n3) rfl rfl ?_
                  simp -implicitDefEqProofs only [go_sem, simprocAttr, -Int.reducePow, DD, w1, w2, w3, w4, w5, List.take_succ_cons, List.drop_succ_cons]
                  refine callK_q disc_Has.call (j1) rfl rfl ?_
                  simp -implicitDefEqProofs only [go_sem, simprocAttr, -Int.reducePow, DD, w1, w2, w3, w4, w5, List.take_succ_cons, List.drop_succ_cons]
              · rw [decide_eq_false qB] at i3
                by_cases qC : hasP cy (rp ry) ct
                · rw [decide_eq_true qC] at j1
                  rw [decide_eq_true (g1 qC)] at s3
                  rw [decide_eq_true (g2 qC)] at m3
                  simp -implicitDefEqProofs only [go_sem, simprocAttr, -Int.reducePow, Tryz.f6, DD, w1, w2, w3, w4, w5, List.take_succ_cons, List.drop_succ_cons]
                  refine callK_q annuluslaw10_known.call (k0) rfl rfl ?_
                  simp -implicitDefEqProofs only [go_sem, simprocAttr, -Int.reducePow, DD, w1, w2, w3, w4, w5, List.take_succ_cons, List.drop_succ_cons]
                  refine callK_q annuluslaw10_fewDisc.call (f1) rfl rfl ?_
                  simp -implicitDefEqProofs only [go_sem, simprocAttr, -Int.reducePow, DD, w1, w2, w3, w4, w5, List.take_succ_cons, List.drop_succ_cons]
                  refine callK_q annuluslaw10_fewDisc.call (f2) rfl rfl ?_
                  simp -implicitDefEqProofs only [go_sem, simprocAttr, -Int.reducePow, DD, w1, w2, w3, w4, w5, List.take_succ_cons, List.drop_succ_cons]
                  refine callK_q annuluslaw10_fewCplx.call (f3) rfl rfl ?_
                  simp -implicitDefEqProofs only [go_sem, simprocAttr, -Int.reducePow, DD, w1, w2, w3, w4, w5, List.take_succ_cons, List.drop_succ_cons]
                  refine callK_q annuluslaw10_fewCplx.call (f4) rfl rfl ?_
                  simp -implicitDefEqProofs only [go_sem, simprocAttr, -Int.reducePow, DD, w1, w2, w3, w4, w5, List.take_succ_cons, List.drop_succ_cons]
                  refine callK_q disc_Has.call (hs) rfl rfl ?_
                  simp -implicitDefEqProofs only [go_sem, simprocAttr, -Int.reducePow, DD, w1, w2, w3, w4, w5, List.take_succ_cons, List.drop_succ_cons]
                  refine callK_q annulusref8_Cplx.call (c1) rfl rfl ?_
                  simp -implicitDefEqProofs only [go_sem, simprocAttr, -Int.reducePow, DD, w1, w2, w3, w4, w5, List.take_succ_cons, List.drop_succ_cons]
                  refine callK_q annulusref8_Cplx.call (c2) rfl rfl ?_
                  simp -implicitDefEqProofs only [go_sem, simprocAttr, -Int.reducePow, DD, w1, w2, w3, w4, w5, List.take_succ_cons, List.drop_succ_cons]
                  refine callK_q disc_In.call (i1) rfl rfl ?_
                  simp -implicitDefEqProofs only [go_sem, simprocAttr, -Int.reducePow, DD, w1, w2, w3, w4, w5, List.take_succ_cons, List.drop_succ_cons]
                  refine callK_q disc_Apart.call (i3) rfl rfl ?_
                  simp -implicitDefEqProofs only [go_sem, simprocAttr, -Int.reducePow, DD, w1, w2, w3, w4, w5, List.take_succ_cons, List.drop_succ_cons]
                  refine callK_q disc_Pow.call (p1) rfl rfl ?_
                  simp -implicitDefEqProofs only [go_sem, simprocAttr, -Int.reducePow, DD, w1, w2, w3, w4, w5, List.take_succ_cons, List.drop_succ_cons]
                  refine callK_q annulusref8_Pow.call (p2) rfl rfl ?_
                  simp -implicitDefEqProofs only [go_sem, simprocAttr, -Int.reducePow, DD, w1, w2, w3, w4, w5, List.take_succ_cons, List.drop_succ_cons]
                  refine callK_q disc_Has.call (p3) rfl rfl ?_
                  simp -implicitDefEqProofs only [go_sem, simprocAttr, -Int.reducePow, DD, w1, w2, w3, w4, w5, List.take_succ_cons, List.drop_succ_cons]
                  refine callK_q disc_Neg.call (n1) rfl rfl ?_
                  simp -implicitDefEqProofs only [go_sem, simprocAttr, -Int.reducePow, DD, w1, w2, w3, w4, w5, List.take_succ_cons, List.drop_succ_cons]
                  refine callK_q annulusref8_Neg.call (n2) rfl rfl ?_
                  simp -implicitDefEqProofs only [go_sem, simprocAttr, -Int.reducePow, DD, w1, w2, w3, w4, w5, List.take_succ_cons, List.drop_succ_cons]
                  refine callK_q disc_Has.call (n3) rfl rfl ?_
                  simp -implicitDefEqProofs only [go_sem, simprocAttr, -Int.reducePow, DD, w1, w2, w3, w4, w5, List.take_succ_cons, List.drop_succ_cons]
                  refine callK_q disc_Has.call (j1) rfl rfl ?_
                  simp -implicitDefEqProofs only [go_sem, simprocAttr, -Int.reducePow, DD, w1, w2, w3, w4, w5, List.take_succ_cons, List.drop_succ_cons]
                  refine callK_q disc_Add.call (s1) rfl rfl ?_
                  simp -implicitDefEqProofs only [go_sem, simprocAttr, -Int.reducePow, DD, w1, w2, w3, w4, w5, List.take_succ_cons, List.drop_succ_cons]
                  refine callK_q annulusref8_Add.call (s2) rfl rfl ?_
                  simp -implicitDefEqProofs only [go_sem, simprocAttr, -Int.reducePow, DD, w1, w2, w3, w4, w5, List.take_succ_cons, List.drop_succ_cons]
                  refine callK_q disc_Has.call (s3) rfl rfl ?_
                  simp -implicitDefEqProofs only [go_sem, simprocAttr, -Int.reducePow, DD, w1, w2, w3, w4, w5, List.take_succ_cons, List.drop_succ_cons]
                  refine callK_q disc_Mul.call (m1) rfl rfl ?_
                  simp -implicitDefEqProofs only [go_sem, simprocAttr, -Int.reducePow, DD, w1, w2, w3, w4, w5, List.take_succ_cons, List.drop_succ_cons]
                  refine callK_q annulusref8_Mul.call (m2) rfl rfl ?_
                  simp -implicitDefEqProofs only [go_sem, simprocAttr, -Int.reducePow, DD, w1, w2, w3, w4, w5, List.take_succ_cons, List.drop_succ_cons]
                  refine callK_q disc_Has.call (m3) rfl rfl ?_
                  simp -implicitDefEqProofs only [go_sem, simprocAttr, -Int.reducePow, DD, w1, w2, w3, w4, w5, List.take_succ_cons, List.drop_succ_cons]
                · rw [decide_eq_false qC] at j1
                  simp -implicitDefEqProofs only [go_sem, simprocAttr, -Int.reducePow, Tryz.f6, DD, w1, w2, w3, w4, w5, List.take_succ_cons, List.drop_succ_cons]
                  refine callK_q annuluslaw10_known.call (k0) rfl rfl ?_
                  simp -implicitDefEqProofs only [go_sem, simprocAttr, -Int.reducePow, DD, w1, w2, w3, w4, w5, List.take_succ_cons, List.drop_succ_cons]
                  refine callK_q annuluslaw10_fewDisc.call (f1) rfl rfl ?_
                  simp -implicitDefEqProofs only [go_sem, simprocAttr, -Int.reducePow, DD, w1, w2, w3, w4, w5, List.take_succ_cons, List.drop_succ_cons]
                  refine callK_q annuluslaw10_fewDisc.call (f2) rfl rfl ?_
                  simp -implicitDefEqProofs only [go_sem, simprocAttr, -Int.reducePow, DD, w1, w2, w3, w4, w5, List.take_succ_cons, List.drop_succ_cons]
                  refine callK_q annuluslaw10_fewCplx.call (f3) rfl rfl ?_
                  simp -implicitDefEqProofs only [go_sem, simprocAttr, -Int.reducePow, DD, w1, w2, w3, w4, w5, List.take_succ_cons, List.drop_succ_cons]
                  refine callK_q annuluslaw10_fewCplx.call (f4) rfl rfl ?_
                  simp -implicitDefEqProofs only [go_sem, simprocAttr, -Int.reducePow, DD, w1, w2, w3, w4, w5, List.take_succ_cons, List.drop_succ_cons]
                  refine callK_q disc_Has.call (hs) rfl rfl ?_
                  simp -implicitDefEqProofs only [go_sem, simprocAttr, -Int.reducePow, DD, w1, w2, w3, w4, w5, List.take_succ_cons, List.drop_succ_cons]
                  refine callK_q annulusref8_Cplx.call (c1) rfl rfl ?_
                  simp -implicitDefEqProofs only [go_sem, simprocAttr, -Int.reducePow, DD, w1, w2, w3, w4, w5, List.take_succ_cons, List.drop_succ_cons]
                  refine callK_q annulusref8_Cplx.call (c2) rfl rfl ?_
                  simp -implicitDefEqProofs only [go_sem, simprocAttr, -Int.reducePow, DD, w1, w2, w3, w4, w5, List.take_succ_cons, List.drop_succ_cons]
                  refine callK_q disc_In.call (i1) rfl rfl ?_
                  simp -implicitDefEqProofs only [go_sem, simprocAttr, -Int.reducePow, DD, w1, w2, w3, w4, w5, List.take_succ_cons, List.drop_succ_cons]
                  refine callK_q disc_Apart.call (i3) rfl rfl ?_
                  simp -implicitDefEqProofs only [go_sem, simprocAttr, -Int.reducePow, DD, w1, w2, w3, w4, w5, List.take_succ_cons, List.drop_succ_cons]
                  refine callK_q disc_Pow.call (p1) rfl rfl ?_
                  simp -implicitDefEqProofs only [go_sem, simprocAttr, -Int.reducePow, DD, w1, w2, w3, w4, w5, List.take_succ_cons, List.drop_succ_cons]
                  refine callK_q annulusref8_Pow.call (p2) rfl rfl ?_
                  simp -implicitDefEqProofs only [go_sem, simprocAttr, -Int.reducePow, DD, w1, w2, w3, w4, w5, List.take_succ_cons, List.drop_succ_cons]
                  refine callK_q disc_Has.call (p3) rfl rfl ?_
                  simp -implicitDefEqProofs only [go_sem, simprocAttr, -Int.reducePow, DD, w1, w2, w3, w4, w5, List.take_succ_cons, List.drop_succ_cons]
                  refine callK_q disc_Neg.call (n1) rfl rfl ?_
                  simp -implicitDefEqProofs only [go_sem, simprocAttr, -Int.reducePow, DD, w1, w2, w3, w4, w5, List.take_succ_cons, List.drop_succ_cons]
                  refine callK_q annulusref8_Neg.call (n2) rfl rfl ?_
                  simp -implicitDefEqProofs only [go_sem, simprocAttr, -Int.reducePow, DD, w1, w2, w3, w4, w5, List.take_succ_cons, List.drop_succ_cons]
                  refine callK_q disc_Has.call (n3) rfl rfl ?_
                  simp -implicitDefEqProofs only [go_sem, simprocAttr, -Int.reducePow, DD, w1, w2, w3, w4, w5, List.take_succ_cons, List.drop_succ_cons]
                  refine callK_q disc_Has.call (j1) rfl rfl ?_
                  simp -implicitDefEqProofs only [go_sem, simprocAttr, -Int.reducePow, DD, w1, w2, w3, w4, w5, List.take_succ_cons, List.drop_succ_cons]
          · rw [decide_eq_false q5] at hs
            simp -implicitDefEqProofs only [go_sem, simprocAttr, -Int.reducePow, Tryz.f6, DD, List.take_succ_cons, List.drop_succ_cons]
            refine callK_q annuluslaw10_known.call (k0) rfl rfl ?_
            simp -implicitDefEqProofs only [go_sem, simprocAttr, -Int.reducePow, DD, List.take_succ_cons, List.drop_succ_cons]
            refine callK_q annuluslaw10_fewDisc.call (f1) rfl rfl ?_
            simp -implicitDefEqProofs only [go_sem, simprocAttr, -Int.reducePow, DD, List.take_succ_cons, List.drop_succ_cons]
            refine callK_q annuluslaw10_fewDisc.call (f2) rfl rfl ?_
            simp -implicitDefEqProofs only [go_sem, simprocAttr, -Int.reducePow, DD, List.take_succ_cons, List.drop_succ_cons]
            refine callK_q annuluslaw10_fewCplx.call (f3) rfl rfl ?_
            simp -implicitDefEqProofs only [go_sem, simprocAttr, -Int.reducePow, DD, List.take_succ_cons, List.drop_succ_cons]
            refine callK_q annuluslaw10_fewCplx.call (f4) rfl rfl ?_
            simp -implicitDefEqProofs only [go_sem, simprocAttr, -Int.reducePow, DD, List.take_succ_cons, List.drop_succ_cons]
            refine callK_q disc_Has.call (hs) rfl rfl ?_
            simp -implicitDefEqProofs only [go_sem, simprocAttr, -Int.reducePow, DD, List.take_succ_cons, List.drop_succ_cons]
        · rw [decide_eq_false q4] at f4
          simp -implicitDefEqProofs only [go_sem, simprocAttr, -Int.reducePow, Tryz.f6, DD, List.take_succ_cons, List.drop_succ_cons]
          refine callK_q annuluslaw10_known.call (k0) rfl rfl ?_
          simp -implicitDefEqProofs only [go_sem, simprocAttr, -Int.reducePow, DD, List.take_succ_cons, List.drop_succ_cons]
          refine callK_q annuluslaw10_fewDisc.call (f1) rfl rfl ?_
          simp -implicitDefEqProofs only [go_sem, simprocAttr, -Int.reducePow, DD, List.take_succ_cons, List.drop_succ_cons]
          refine callK_q annuluslaw10_fewDisc.call (f2) rfl rfl ?_
          simp -implicitDefEqProofs only [go_sem, simprocAttr, -Int.reducePow, DD, List.take_succ_cons, List.drop_succ_cons]
          refine callK_q annuluslaw10_fewCplx.call (f3) rfl rfl ?_
          simp -implicitDefEqProofs only [go_sem, simprocAttr, -Int.reducePow, DD, List.take_succ_cons, List.drop_succ_cons]
          refine callK_q annuluslaw10_fewCplx.call (f4) rfl rfl ?_
          simp -implicitDefEqProofs only [go_sem, simprocAttr, -Int.reducePow, DD, List.take_succ_cons, List.drop_succ_cons]
      · rw [decide_eq_false q3] at f3
        simp -implicitDefEqProofs only [go_sem, simprocAttr, -Int.reducePow, Tryz.f6, DD, List.take_succ_cons, List.drop_succ_cons]
        refine callK_q annuluslaw10_known.call (k0) rfl rfl ?_
        simp -implicitDefEqProofs only [go_sem, simprocAttr, -Int.reducePow, DD, List.take_succ_cons, List.drop_succ_cons]
        refine callK_q annuluslaw10_fewDisc.call (f1) rfl rfl ?_
        simp -implicitDefEqProofs only [go_sem, simprocAttr, -Int.reducePow, DD, List.take_succ_cons, List.drop_succ_cons]
        refine callK_q annuluslaw10_fewDisc.call (f2) rfl rfl ?_
        simp -implicitDefEqProofs only [go_sem, simprocAttr, -Int.reducePow, DD, List.take_succ_cons, List.drop_succ_cons]
        refine callK_q annuluslaw10_fewCplx.call (f3) rfl rfl ?_
        simp -implicitDefEqProofs only [go_sem, simprocAttr, -Int.reducePow, DD, List.take_succ_cons, List.drop_succ_cons]
    · rw [decide_eq_false q2] at f2
      simp -implicitDefEqProofs only [go_sem, simprocAttr, -Int.reducePow, Tryz.f6, DD, List.take_succ_cons, List.drop_succ_cons]
      refine callK_q annuluslaw10_known.call (k0) rfl rfl ?_
      simp -implicitDefEqProofs only [go_sem, simprocAttr, -Int.reducePow, DD, List.take_succ_cons, List.drop_succ_cons]
      refine callK_q annuluslaw10_fewDisc.call (f1) rfl rfl ?_
      simp -implicitDefEqProofs only [go_sem, simprocAttr, -Int.reducePow, DD, List.take_succ_cons, List.drop_succ_cons]
      refine callK_q annuluslaw10_fewDisc.call (f2) rfl rfl ?_
      simp -implicitDefEqProofs only [go_sem, simprocAttr, -Int.reducePow, DD, List.take_succ_cons, List.drop_succ_cons]
  · rw [decide_eq_false q1] at f1
    simp -implicitDefEqProofs only [go_sem, simprocAttr, -Int.reducePow, Tryz.f6, DD, List.take_succ_cons, List.drop_succ_cons]
    refine callK_q annuluslaw10_known.call (k0) rfl rfl ?_
    simp -implicitDefEqProofs only [go_sem, simprocAttr, -Int.reducePow, DD, List.take_succ_cons, List.drop_succ_cons]
    refine callK_q annuluslaw10_fewDisc.call (f1) rfl rfl ?_
    simp -implicitDefEqProofs only [go_sem, simprocAttr, -Int.reducePow, DD, List.take_succ_cons, List.drop_succ_cons]
end Go.Ab

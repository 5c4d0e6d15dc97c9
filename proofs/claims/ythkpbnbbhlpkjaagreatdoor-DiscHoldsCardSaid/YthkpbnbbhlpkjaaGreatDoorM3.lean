/- Contracts of this seat's functions (of each call: what it answers), walked over the abstract machine, and the laws of numbers that they want. Conditions: those that each theorem states. -/
import Derived.Test.YthkpbnbbhlpkjaaGreatDoorM2
set_option linter.unusedVariables false
set_option maxRecDepth 20000
set_option linter.unusedSimpArgs false
set_option linter.unusedSectionVars false
namespace Go.Ab
open Go.Proofs
open Cx (zero one)
attribute [-go_sem] appF newsF
variable {a b : AV} {x y r s : Dyadic} {z w c d : Cx} {B C B' C' n m : Nat}
/-! discs: of the document -/
theorem fnorm_s (hz : CB z B) (hB : B ≤ 9000) : Sat CT false 86 [CI z] (DI (nrm z)) := by
  refine sat_of annulusref8_Norm.ok (by simp) ?_
  have DD := annulusref8_Norm.dr
  simp only [drP, drPx, drPt, drR, drS, drT, bodyOf, Tryz.f86, Nat.reduceEqDiff, reduceIte, true_and, and_true] at DD
  unfold nrm
  have u1 := rmul4 (RD_D hz.1) (RD_D hz.1) (by omega) (by omega)
  have u2 := rmul4 (RD_D hz.2) (RD_D hz.2) (by omega) (by omega)
  have u3 := radd4 (hz.1.mul hz.1) (hz.2.mul hz.2) (by omega) (by omega)
  simp -implicitDefEqProofs only [go_sem, simprocAttr, -Int.reducePow, Tryz.f86, DD, List.take_succ_cons, List.drop_succ_cons]
  refine callK_q annulusref4_Mul.call (u1) rfl rfl ?_
  simp -implicitDefEqProofs only [go_sem, simprocAttr, -Int.reducePow, DD, List.take_succ_cons, List.drop_succ_cons]
  refine callK_q annulusref4_Mul.call (u2) rfl rfl ?_
  simp -implicitDefEqProofs only [go_sem, simprocAttr, -Int.reducePow, DD, List.take_succ_cons, List.drop_succ_cons]
  refine callK_q annulusref4_Add.call (u3) rfl rfl ?_
  simp -implicitDefEqProofs only [go_sem, simprocAttr, -Int.reducePow, DD, List.take_succ_cons, List.drop_succ_cons]
theorem fcmp_s (hx : DB x B) (hy : DB y C) (hB : B ≤ 19000) (hC : C ≤ 19000) : Sat CT false 85 [DI x, DI y] (I64 (dnum (x - y)).sign) := by
  refine sat_of annulusref4_Cmp.ok (by simp) ?_
  have DD := annulusref4_Cmp.dr
  simp only [drP, drPx, drPt, drR, drS, drT, bodyOf, Tryz.f85, Nat.reduceEqDiff, reduceIte, true_and, and_true] at DD
  have q1 := rsub4 hx hy (by omega) (by omega)
  have q2 := rsign4_r (RD_D (DB.sub' hx hy)) (by omega)
  simp -implicitDefEqProofs only [go_sem, simprocAttr, -Int.reducePow, Tryz.f85, DD, List.take_succ_cons, List.drop_succ_cons]
  refine callK_q annulusref4_Sub.call (q1) rfl rfl ?_
  simp -implicitDefEqProofs only [go_sem, simprocAttr, -Int.reducePow, DD, List.take_succ_cons, List.drop_succ_cons]
  refine callK_q annulusref4_Sign.call (q2) rfl rfl ?_
  simp -implicitDefEqProofs only [go_sem, simprocAttr, -Int.reducePow, DD, List.take_succ_cons, List.drop_succ_cons]
theorem ffar_s (hz : CB z B) (hB : B ≤ 5290) (p : Int) (hp : heldP p ≤ 400) : Sat CT false 41 [CI z, I64 p, I64 1] (DI (far z (heldP p) true)) := by
  refine sat_of annulusref8_Far.ok (by simp) ?_
  have DD := annulusref8_Far.dr
  simp only [drP, drPx, drPt, drR, drS, drT, bodyOf, Tryz.f41, Nat.reduceEqDiff, reduceIte, true_and, and_true] at DD
  have g1 := fnorm_s hz (by omega)
  have hn := nrm_db hz
  by_cases q : dnum (nrm z) ≤ 0
  · have r1 := rroot4_n hn q (by omega) p 1
    rw [show far z (heldP p) true = 0 from droot_0 q _ _, DI_0]
    simp -implicitDefEqProofs only [go_sem, simprocAttr, -Int.reducePow, Tryz.f41, DD, QZ, List.take_succ_cons, List.drop_succ_cons]
    refine callK_q annulusref8_Norm.call (g1) rfl rfl ?_
    simp -implicitDefEqProofs only [go_sem, simprocAttr, -Int.reducePow, DD, QZ, List.take_succ_cons, List.drop_succ_cons]
    refine callK_q annulusref4_Root.call (r1) rfl rfl ?_
    simp -implicitDefEqProofs only [go_sem, simprocAttr, -Int.reducePow, DD, QZ, List.take_succ_cons, List.drop_succ_cons]
    rfl
  · have r1 := rroot4_ok hn (Int.not_le.1 q) (Nat.le_trans (bl_B hn) (by omega)) (Nat.le_trans hn.num.2 (by omega)) (by omega) p 1 hp
    rw [show far z (heldP p) true = droot (nrm z) (heldP p) (decide ((1 : Int) = 1)) from rfl]
    simp -implicitDefEqProofs only [go_sem, simprocAttr, -Int.reducePow, Tryz.f41, DD, List.take_succ_cons, List.drop_succ_cons]
    refine callK_q annulusref8_Norm.call (g1) rfl rfl ?_
    simp -implicitDefEqProofs only [go_sem, simprocAttr, -Int.reducePow, DD, List.take_succ_cons, List.drop_succ_cons]
    refine callK_q annulusref4_Root.call (r1) rfl rfl ?_
    simp -implicitDefEqProofs only [go_sem, simprocAttr, -Int.reducePow, DD, List.take_succ_cons, List.drop_succ_cons]
theorem fto_0 (p : Int) : Sat CT false 96 [DI 0, I64 p, I64 1] (DI 0) := by
  refine sat_of annulusref4_To.ok (by simp) ?_
  have DD := annulusref4_To.dr
  simp only [drP, drPx, drPt, drR, drS, drT, bodyOf, Tryz.f96, Nat.reduceEqDiff, reduceIte, true_and, and_true] at DD
  have s1 := rsign4_r (RD_D (DB.zero 0)) (by decide)
  have c1 := sg_zero (rfl : (0 : Dyadic) = 0)
  simp -implicitDefEqProofs only [go_sem, simprocAttr, -Int.reducePow, Tryz.f96, DD, c1, List.take_succ_cons, List.drop_succ_cons]
  refine callK_q annulusref4_Sign.call (s1) rfl rfl ?_
  simp -implicitDefEqProofs only [go_sem, simprocAttr, -Int.reducePow, DD, c1, List.take_succ_cons, List.drop_succ_cons]
theorem fto_s (hx : DB x B) (hB : B ≤ 20000) (p : Int) : Sat CT false 96 [DI x, I64 p, I64 1] (DI (upr x (heldP p))) := by
  unfold upr
  by_cases q : x = 0
  · rw [if_pos q, q]; exact fto_0 p
  · rw [if_neg q]
    exact rto_sat hx hB p 1 (.inr rfl) q
theorem fdisc_s (h : RT a c r B B') (hB : B ≤ 19000) (hB' : B' ≤ 19000) : Sat CT false 21 [a] (TI c (rp r)) := by
  refine sat_of annulusref8_Disc.ok (by simp) ?_
  have DD := annulusref8_Disc.dr
  simp only [drP, drPx, drPt, drR, drS, drT, bodyOf, Tryz.f21, Nat.reduceEqDiff, reduceIte, true_and, and_true] at DD
  obtain ⟨n, l, e, m, k, f, o, p, q, rfl, hc, hr⟩ := h.ex
  have x1 := rexact_r hr (by omega)
  have s1 := rsign4_r (RD_D hr.db) (by omega)
  have u1 := rcplx_r hc (by omega)
  by_cases h1 : (dnum r).sign < 0
  · rw [show rp r = 0 from if_pos h1]
    simp -implicitDefEqProofs only [go_sem, simprocAttr, -Int.reducePow, Tryz.f21, DD, h1, TI, List.take_succ_cons, List.drop_succ_cons]
    refine callK_q annulusref4_Exact.call (x1) rfl rfl ?_
    simp -implicitDefEqProofs only [go_sem, simprocAttr, -Int.reducePow, DD, h1, TI, List.take_succ_cons, List.drop_succ_cons]
    refine callK_q annulusref4_Sign.call (s1) rfl rfl ?_
    simp -implicitDefEqProofs only [go_sem, simprocAttr, -Int.reducePow, DD, h1, TI, List.take_succ_cons, List.drop_succ_cons]
    refine callK_q annulusref8_Cplx.call (u1) rfl rfl ?_
    simp -implicitDefEqProofs only [go_sem, simprocAttr, -Int.reducePow, DD, h1, TI, List.take_succ_cons, List.drop_succ_cons]
    rw [z0a, z0b, de0]
    rfl
  · rw [show rp r = r from if_neg h1]
    simp -implicitDefEqProofs only [go_sem, simprocAttr, -Int.reducePow, Tryz.f21, DD, h1, TI, List.take_succ_cons, List.drop_succ_cons]
    refine callK_q annulusref4_Exact.call (x1) rfl rfl ?_
    simp -implicitDefEqProofs only [go_sem, simprocAttr, -Int.reducePow, DD, h1, TI, List.take_succ_cons, List.drop_succ_cons]
    refine callK_q annulusref4_Sign.call (s1) rfl rfl ?_
    simp -implicitDefEqProofs only [go_sem, simprocAttr, -Int.reducePow, DD, h1, TI, List.take_succ_cons, List.drop_succ_cons]
    refine callK_q annulusref8_Cplx.call (u1) rfl rfl ?_
    simp -implicitDefEqProofs only [go_sem, simprocAttr, -Int.reducePow, DD, h1, TI, List.take_succ_cons, List.drop_succ_cons]
theorem fholds_s (hc : CB c B) (hr : DB r B') (hw : CB w C) (hB : B ≤ 8000) (hC : C ≤ 8000) (hB' : B' ≤ 9000) : Sat CT false 26 [TI c r, CI w] (Bo (decide (hasP c r w))) := by
  refine sat_of annulusref8_Holds.ok (by simp) ?_
  have DD := annulusref8_Holds.dr
  simp only [drP, drPx, drPt, drR, drS, drT, bodyOf, Tryz.f26, Nat.reduceEqDiff, reduceIte, true_and, and_true] at DD
  unfold hasP
  have u1 := rsub8 hw hc (by omega) (by omega)
  have b1 := CB.sub' hw hc
  have u2 := fnorm_s b1 (by omega)
  have u3 := rmul4 (RD_D hr) (RD_D hr) (by omega) (by omega)
  have u4 := fcmp_s (nrm_db b1) (hr.mul hr) (by omega) (by omega)
  simp -implicitDefEqProofs only [go_sem, simprocAttr, -Int.reducePow, Tryz.f26, DD, TI, List.take_succ_cons, List.drop_succ_cons]
  refine callK_q annulusref8_Sub.call (u1) rfl rfl ?_
  simp -implicitDefEqProofs only [go_sem, simprocAttr, -Int.reducePow, DD, TI, List.take_succ_cons, List.drop_succ_cons]
  refine callK_q annulusref8_Norm.call (u2) rfl rfl ?_
  simp -implicitDefEqProofs only [go_sem, simprocAttr, -Int.reducePow, DD, TI, List.take_succ_cons, List.drop_succ_cons]
  refine callK_q annulusref4_Mul.call (u3) rfl rfl ?_
  simp -implicitDefEqProofs only [go_sem, simprocAttr, -Int.reducePow, DD, TI, List.take_succ_cons, List.drop_succ_cons]
  refine callK_q annulusref4_Cmp.call (u4) rfl rfl ?_
  simp -implicitDefEqProofs only [go_sem, simprocAttr, -Int.reducePow, DD, TI, List.take_succ_cons, List.drop_succ_cons]
theorem fin_s (hc : CB c B) (hr : DB r B') (hd : CB d C) (hs : DB s C') (hB : B ≤ 8000) (hC : C ≤ 8000) (hB' : B' ≤ 9000) (hC' : C' ≤ 9000) : Sat CT false 28 [TI c r, TI d s] (Bo (decide (inP c r d s))) := by
  refine sat_of annulusref8_InDisc.ok (by simp) ?_
  have DD := annulusref8_InDisc.dr
  simp only [drP, drPx, drPt, drR, drS, drT, bodyOf, Tryz.f28, Nat.reduceEqDiff, reduceIte, true_and, and_true] at DD
  have v3 := rsub4 hs hr (by omega) (by omega)
  have b3 := DB.sub' hs hr
  have v4 := rsign4_r (RD_D b3) (by omega)
  have u1 := rsub8 hc hd (by omega) (by omega)
  have b1 := CB.sub' hc hd
  have u2 := fnorm_s b1 (by omega)
  have u4 := rmul4 (RD_D b3) (RD_D b3) (by omega) (by omega)
  have u5 := fcmp_s (nrm_db b1) (b3.mul b3) (by omega) (by omega)
  by_cases h1 : 0 ≤ (dnum (s - r)).sign
  · have e : decide (inP c r d s) = decide ((dnum (nrm (c - d) - (s - r) * (s - r))).sign ≤ 0) := decide_eq_decide.2 ⟨fun h => h.2, fun h => ⟨h1, h⟩⟩
    rw [e]
    simp -implicitDefEqProofs only [go_sem, simprocAttr, -Int.reducePow, Tryz.f28, DD, TI, h1, ge_iff_le, List.take_succ_cons, List.drop_succ_cons]
    refine callK_q annulusref4_Sub.call (v3) rfl rfl ?_
    simp -implicitDefEqProofs only [go_sem, simprocAttr, -Int.reducePow, DD, TI, h1, ge_iff_le, List.take_succ_cons, List.drop_succ_cons]
    refine callK_q annulusref4_Sign.call (v4) rfl rfl ?_
    simp -implicitDefEqProofs only [go_sem, simprocAttr, -Int.reducePow, DD, TI, h1, ge_iff_le, List.take_succ_cons, List.drop_succ_cons]
    refine callK_q annulusref8_Sub.call (u1) rfl rfl ?_
    simp -implicitDefEqProofs only [go_sem, simprocAttr, -Int.reducePow, DD, TI, h1, ge_iff_le, List.take_succ_cons, List.drop_succ_cons]
    refine callK_q annulusref8_Norm.call (u2) rfl rfl ?_
    simp -implicitDefEqProofs only [go_sem, simprocAttr, -Int.reducePow, DD, TI, h1, ge_iff_le, List.take_succ_cons, List.drop_succ_cons]
    refine callK_q annulusref4_Mul.call (u4) rfl rfl ?_
    simp -implicitDefEqProofs only [go_sem, simprocAttr, -Int.reducePow, DD, TI, h1, ge_iff_le, List.take_succ_cons, List.drop_succ_cons]
    refine callK_q annulusref4_Cmp.call (u5) rfl rfl ?_
    simp -implicitDefEqProofs only [go_sem, simprocAttr, -Int.reducePow, DD, TI, h1, ge_iff_le, List.take_succ_cons, List.drop_succ_cons]
  · rw [decide_eq_false (show ¬ inP c r d s from fun h => h1 h.1)]
    simp -implicitDefEqProofs only [go_sem, simprocAttr, -Int.reducePow, Tryz.f28, DD, TI, h1, ge_iff_le, List.take_succ_cons, List.drop_succ_cons]
    refine callK_q annulusref4_Sub.call (v3) rfl rfl ?_
    simp -implicitDefEqProofs only [go_sem, simprocAttr, -Int.reducePow, DD, TI, h1, ge_iff_le, List.take_succ_cons, List.drop_succ_cons]
    refine callK_q annulusref4_Sign.call (v4) rfl rfl ?_
    simp -implicitDefEqProofs only [go_sem, simprocAttr, -Int.reducePow, DD, TI, h1, ge_iff_le, List.take_succ_cons, List.drop_succ_cons]
theorem fapart_s (hc : CB c B) (hr : DB r B') (hd : CB d C) (hs : DB s C') (hB : B ≤ 8000) (hC : C ≤ 8000) (hB' : B' ≤ 9000) (hC' : C' ≤ 9000) : Sat CT false 29 [TI c r, TI d s] (Bo (decide (apP c r d s))) := by
  refine sat_of annulusref8_Apart.ok (by simp) ?_
  have DD := annulusref8_Apart.dr
  simp only [drP, drPx, drPt, drR, drS, drT, bodyOf, Tryz.f29, Nat.reduceEqDiff, reduceIte, true_and, and_true] at DD
  unfold apP
  have v3 := radd4 hr hs (by omega) (by omega)
  have b3 := DB.add' hr hs
  have u1 := rsub8 hc hd (by omega) (by omega)
  have b1 := CB.sub' hc hd
  have u2 := fnorm_s b1 (by omega)
  have u4 := rmul4 (RD_D b3) (RD_D b3) (by omega) (by omega)
  have u5 := fcmp_s (nrm_db b1) (b3.mul b3) (by omega) (by omega)
  simp -implicitDefEqProofs only [go_sem, simprocAttr, -Int.reducePow, Tryz.f29, DD, TI, gt_iff_lt, List.take_succ_cons, List.drop_succ_cons]
  refine callK_q annulusref4_Add.call (v3) rfl rfl ?_
  simp -implicitDefEqProofs only [go_sem, simprocAttr, -Int.reducePow, DD, TI, gt_iff_lt, List.take_succ_cons, List.drop_succ_cons]
  refine callK_q annulusref8_Sub.call (u1) rfl rfl ?_
  simp -implicitDefEqProofs only [go_sem, simprocAttr, -Int.reducePow, DD, TI, gt_iff_lt, List.take_succ_cons, List.drop_succ_cons]
  refine callK_q annulusref8_Norm.call (u2) rfl rfl ?_
  simp -implicitDefEqProofs only [go_sem, simprocAttr, -Int.reducePow, DD, TI, gt_iff_lt, List.take_succ_cons, List.drop_succ_cons]
  refine callK_q annulusref4_Mul.call (u4) rfl rfl ?_
  simp -implicitDefEqProofs only [go_sem, simprocAttr, -Int.reducePow, DD, TI, gt_iff_lt, List.take_succ_cons, List.drop_succ_cons]
  refine callK_q annulusref4_Cmp.call (u5) rfl rfl ?_
  simp -implicitDefEqProofs only [go_sem, simprocAttr, -Int.reducePow, DD, TI, gt_iff_lt, List.take_succ_cons, List.drop_succ_cons]
theorem fadd_s (hc : CB c B) (hr : DB r B') (hd : CB d C) (hs : DB s C') (hB : B ≤ 10000) (hC : C ≤ 10000) (hB' : B' ≤ 10000) (hC' : C' ≤ 10000) : Sat CT false 32 [TI c r, TI d s] (TI (c + d) (r + s)) := by
  refine sat_of annulusref8_AddDisc.ok (by simp) ?_
  have DD := annulusref8_AddDisc.dr
  simp only [drP, drPx, drPt, drR, drS, drT, bodyOf, Tryz.f32, Nat.reduceEqDiff, reduceIte, true_and, and_true] at DD
  have u1 := radd8 hc hd (by omega) (by omega)
  have v3 := radd4 hr hs (by omega) (by omega)
  simp -implicitDefEqProofs only [go_sem, simprocAttr, -Int.reducePow, Tryz.f32, DD, TI, List.take_succ_cons, List.drop_succ_cons]
  refine callK_q annulusref8_Add.call (u1) rfl rfl ?_
  simp -implicitDefEqProofs only [go_sem, simprocAttr, -Int.reducePow, DD, TI, List.take_succ_cons, List.drop_succ_cons]
  refine callK_q annulusref4_Add.call (v3) rfl rfl ?_
  simp -implicitDefEqProofs only [go_sem, simprocAttr, -Int.reducePow, DD, TI, List.take_succ_cons, List.drop_succ_cons]
theorem fmul_s (hc : CB c B) (hr : DB r B') (hd : CB d C) (hs : DB s C') (hB : B ≤ 5290) (hC : C ≤ 5290) (hB' : B' ≤ 10000) (hC' : C' ≤ 10000) (p : Int) (hp : heldP p ≤ 400) {K : Nat} (h1 : B + heldP p + 3 + C' ≤ K) (h2 : C + heldP p + 3 + B' ≤ K) (h3 : B' + C' ≤ K) (hK : K ≤ 15000) :
    Sat CT false 36 [TI c r, TI d s, I64 p] (TI (c * d) (mrad c r d s (heldP p))) := by
  refine sat_of annulusref8_MulDisc.ok (by simp) ?_
  have DD := annulusref8_MulDisc.dr
  simp only [drP, drPx, drPt, drR, drS, drT, bodyOf, Tryz.f36, Nat.reduceEqDiff, reduceIte, true_and, and_true] at DD
  have hP1 := (heldP_v p).2.2.1
  have f1 := ffar_s hc hB p hp
  have f2 := ffar_s hd hC p hp
  have x1 := far_db2 hc hP1 true
  have x2 := far_db2 hd hP1 true
  have u1 := rmul4 (RD_D x1) (RD_D hs) (by omega) (by omega)
  have u2 := rmul4 (RD_D x2) (RD_D hr) (by omega) (by omega)
  have y1 := (x1.mul hs).mono h1
  have y2 := (x2.mul hr).mono h2
  have u3 := radd4 y1 y2 (by omega) (by omega)
  have u4 := rmul4 (RD_D hr) (RD_D hs) (by omega) (by omega)
  have u5 := radd4 (y1.add y2) (hr.mul hs) (by omega) (by omega)
  have g1 := rmul8 hc hd (by omega)
  have mb := mra_db hc hr hd hs hP1 h1 h2 h3
  have t1 := fto_s mb (by omega) p
  unfold mrad mra at *
  simp -implicitDefEqProofs only [go_sem, simprocAttr, -Int.reducePow, Tryz.f36, DD, TI, List.take_succ_cons, List.drop_succ_cons]
  refine callK_q annulusref8_Far.call (f1) rfl rfl ?_
  simp -implicitDefEqProofs only [go_sem, simprocAttr, -Int.reducePow, DD, TI, List.take_succ_cons, List.drop_succ_cons]
  refine callK_q annulusref4_Mul.call (u1) rfl rfl ?_
  simp -implicitDefEqProofs only [go_sem, simprocAttr, -Int.reducePow, DD, TI, List.take_succ_cons, List.drop_succ_cons]
  refine callK_q annulusref8_Far.call (f2) rfl rfl ?_
  simp -implicitDefEqProofs only [go_sem, simprocAttr, -Int.reducePow, DD, TI, List.take_succ_cons, List.drop_succ_cons]
  refine callK_q annulusref4_Mul.call (u2) rfl rfl ?_
  simp -implicitDefEqProofs only [go_sem, simprocAttr, -Int.reducePow, DD, TI, List.take_succ_cons, List.drop_succ_cons]
  refine callK_q annulusref4_Add.call (u3) rfl rfl ?_
  simp -implicitDefEqProofs only [go_sem, simprocAttr, -Int.reducePow, DD, TI, List.take_succ_cons, List.drop_succ_cons]
  refine callK_q annulusref4_Mul.call (u4) rfl rfl ?_
  simp -implicitDefEqProofs only [go_sem, simprocAttr, -Int.reducePow, DD, TI, List.take_succ_cons, List.drop_succ_cons]
  refine callK_q annulusref4_Add.call (u5) rfl rfl ?_
  simp -implicitDefEqProofs only [go_sem, simprocAttr, -Int.reducePow, DD, TI, List.take_succ_cons, List.drop_succ_cons]
  refine callK_q annulusref8_Mul.call (g1) rfl rfl ?_
  simp -implicitDefEqProofs only [go_sem, simprocAttr, -Int.reducePow, DD, TI, List.take_succ_cons, List.drop_succ_cons]
  refine callK_q annulusref4_To.call (t1) rfl rfl ?_
  simp -implicitDefEqProofs only [go_sem, simprocAttr, -Int.reducePow, DD, TI, List.take_succ_cons, List.drop_succ_cons]
theorem fequal_s (hc : CB c B) (hr : DB r B') (hd : CB d C) (hs : DB s C') (hB : B ≤ 20000) (hC : C ≤ 20000) (hB' : B' ≤ 20000) (hC' : C' ≤ 20000) : Sat CT false 30 [TI c r, TI d s] (Bo (decide (c = d ∧ r = s))) := by
  refine sat_of annulusref8_EqualDisc.ok (by simp) ?_
  have DD := annulusref8_EqualDisc.dr
  simp only [drP, drPx, drPt, drR, drS, drT, bodyOf, Tryz.f30, Nat.reduceEqDiff, reduceIte, true_and, and_true] at DD
  have u1 := requal8d hc hd (by omega) (by omega)
  have u2 := requal4d hr hs (by omega) (by omega)
  by_cases h1 : c = d
  · have e : decide (c = d ∧ r = s) = decide (r = s) := decide_eq_decide.2 ⟨fun h => h.2, fun h => ⟨h1, h⟩⟩
    rw [decide_eq_true h1] at u1
    rw [e]
    simp -implicitDefEqProofs only [go_sem, simprocAttr, -Int.reducePow, Tryz.f30, DD, TI, List.take_succ_cons, List.drop_succ_cons]
    refine callK_q annulusref8_Equal.call (u1) rfl rfl ?_
    simp -implicitDefEqProofs only [go_sem, simprocAttr, -Int.reducePow, DD, TI, List.take_succ_cons, List.drop_succ_cons]
    refine callK_q annulusref4_Equal.call (u2) rfl rfl ?_
    simp -implicitDefEqProofs only [go_sem, simprocAttr, -Int.reducePow, DD, TI, List.take_succ_cons, List.drop_succ_cons]
  · rw [decide_eq_false h1] at u1
    rw [decide_eq_false (show ¬ (c = d ∧ r = s) from fun h => h1 h.1)]
    simp -implicitDefEqProofs only [go_sem, simprocAttr, -Int.reducePow, Tryz.f30, DD, TI, List.take_succ_cons, List.drop_succ_cons]
    refine callK_q annulusref8_Equal.call (u1) rfl rfl ?_
    simp -implicitDefEqProofs only [go_sem, simprocAttr, -Int.reducePow, DD, TI, List.take_succ_cons, List.drop_succ_cons]
/-! rectangles: of the document -/
theorem fmn_mx (x y : Dyadic) : (0 < (dnum (x - y)).sign ∧ dmn x y = y ∧ dmx x y = x) ∨ (¬ 0 < (dnum (x - y)).sign ∧ dmn x y = x ∧ dmx x y = y) := by
  unfold dmn dmx
  by_cases h : 0 < (dnum (x - y)).sign
  · exact .inl ⟨h, if_neg (by omega), if_pos (by omega)⟩
  · refine .inr ⟨h, if_pos (by omega), ?_⟩
    by_cases g : 0 ≤ (dnum (x - y)).sign
    · rw [if_pos g]
      have e : (dnum (x - y)).sign = 0 := by omega
      have e2 : x - y = 0 := dnum_zero.1 (Int.sign_eq_zero_iff_zero.1 e)
      have : x = x - y + y := by grind
      rw [this, e2]; grind
    · rw [if_neg g]
theorem freal_s (h : RS a x y B) (hB : B ≤ 19000) : Sat CT false 105 [a] (SI (dmn x y) (dmx x y)) := by
  refine sat_of annulusref4_Real.ok (by simp) ?_
  have DD := annulusref4_Real.dr
  simp only [drP, drPx, drPt, drR, drS, drT, bodyOf, Tryz.f105, Nat.reduceEqDiff, reduceIte, true_and, and_true] at DD
  obtain ⟨n, l, e, m, k, f, rfl, h1, h2⟩ := h
  have x1 := rexact_r h1 (by omega)
  have x2 := rexact_r h2 (by omega)
  have k1 := fcmp_s h1.db h2.db (by omega) (by omega)
  rcases fmn_mx x y with ⟨q, e1, e2⟩ | ⟨q, e1, e2⟩
  · rw [e1, e2]
    simp -implicitDefEqProofs only [go_sem, simprocAttr, -Int.reducePow, Tryz.f105, DD, q, gt_iff_lt, SI, List.take_succ_cons, List.drop_succ_cons]
    refine callK_q annulusref4_Exact.call (x1) rfl rfl ?_
    simp -implicitDefEqProofs only [go_sem, simprocAttr, -Int.reducePow, DD, q, gt_iff_lt, SI, List.take_succ_cons, List.drop_succ_cons]
    refine callK_q annulusref4_Exact.call (x2) rfl rfl ?_
    simp -implicitDefEqProofs only [go_sem, simprocAttr, -Int.reducePow, DD, q, gt_iff_lt, SI, List.take_succ_cons, List.drop_succ_cons]
    refine callK_q annulusref4_Cmp.call (k1) rfl rfl ?_
    simp -implicitDefEqProofs only [go_sem, simprocAttr, -Int.reducePow, DD, q, gt_iff_lt, SI, List.take_succ_cons, List.drop_succ_cons]
  · rw [e1, e2]
    simp -implicitDefEqProofs only [go_sem, simprocAttr, -Int.reducePow, Tryz.f105, DD, q, gt_iff_lt, SI, List.take_succ_cons, List.drop_succ_cons]
    refine callK_q annulusref4_Exact.call (x1) rfl rfl ?_
    simp -implicitDefEqProofs only [go_sem, simprocAttr, -Int.reducePow, DD, q, gt_iff_lt, SI, List.take_succ_cons, List.drop_succ_cons]
    refine callK_q annulusref4_Exact.call (x2) rfl rfl ?_
    simp -implicitDefEqProofs only [go_sem, simprocAttr, -Int.reducePow, DD, q, gt_iff_lt, SI, List.take_succ_cons, List.drop_succ_cons]
    refine callK_q annulusref4_Cmp.call (k1) rfl rfl ?_
    simp -implicitDefEqProofs only [go_sem, simprocAttr, -Int.reducePow, DD, q, gt_iff_lt, SI, List.take_succ_cons, List.drop_succ_cons]
theorem frect_s {x y z w : Dyadic} (h : RQ a x y z w B) (hB : B ≤ 19000) : Sat CT false 45 [a] (QI (dmn x y) (dmx x y) (dmn z w) (dmx z w)) := by
  refine sat_of annulusref8_Rect.ok (by simp) ?_
  have DD := annulusref8_Rect.dr
  simp only [drP, drPx, drPt, drR, drS, drT, bodyOf, Tryz.f45, Nat.reduceEqDiff, reduceIte, true_and, and_true] at DD
  obtain ⟨n, l, e, m, k, f, n', l', e', m', k', f', rfl, h1, h2, h3, h4⟩ := h
  have u1 := freal_s ⟨n, l, e, m, k, f, rfl, h1, h2⟩ hB
  have u2 := freal_s ⟨n', l', e', m', k', f', rfl, h3, h4⟩ hB
  simp -implicitDefEqProofs only [go_sem, simprocAttr, -Int.reducePow, Tryz.f45, DD, QI, SI, List.take_succ_cons, List.drop_succ_cons]
  refine callK_q annulusref4_Real.call (u1) rfl rfl ?_
  simp -implicitDefEqProofs only [go_sem, simprocAttr, -Int.reducePow, DD, QI, SI, List.take_succ_cons, List.drop_succ_cons]
  refine callK_q annulusref4_Real.call (u2) rfl rfl ?_
  simp -implicitDefEqProofs only [go_sem, simprocAttr, -Int.reducePow, DD, QI, SI, List.take_succ_cons, List.drop_succ_cons]
theorem feqreal_s (hx : DB x B) (hy : DB y B) (hB : B ≤ 20000) : Sat CT false 109 [SI x y, SI x y] (Bo true) := by
  refine sat_of annulusref4_EqualReal.ok (by simp) ?_
  have DD := annulusref4_EqualReal.dr
  simp only [drP, drPx, drPt, drR, drS, drT, bodyOf, Tryz.f109, Nat.reduceEqDiff, reduceIte, true_and, and_true] at DD
  have u1 := requal4 hx hB
  have u2 := requal4 hy hB
  simp -implicitDefEqProofs only [go_sem, simprocAttr, -Int.reducePow, Tryz.f109, DD, SI, List.take_succ_cons, List.drop_succ_cons]
  refine callK_q annulusref4_Equal.call (u1) rfl rfl ?_
  simp -implicitDefEqProofs only [go_sem, simprocAttr, -Int.reducePow, DD, SI, List.take_succ_cons, List.drop_succ_cons]
  refine callK_q annulusref4_Equal.call (u2) rfl rfl ?_
  simp -implicitDefEqProofs only [go_sem, simprocAttr, -Int.reducePow, DD, SI, List.take_succ_cons, List.drop_succ_cons]
theorem feqrect_s {x y z w : Dyadic} (hx : DB x B) (hy : DB y B) (hz : DB z B) (hw : DB w B) (hB : B ≤ 20000) : Sat CT false 48 [QI x y z w, QI x y z w] (Bo true) := by
  refine sat_of annulusref8_EqualRect.ok (by simp) ?_
  have DD := annulusref8_EqualRect.dr
  simp only [drP, drPx, drPt, drR, drS, drT, bodyOf, Tryz.f48, Nat.reduceEqDiff, reduceIte, true_and, and_true] at DD
  have u1 := feqreal_s hx hy hB
  have u2 := feqreal_s hz hw hB
  unfold SI at u1 u2
  simp -implicitDefEqProofs only [go_sem, simprocAttr, -Int.reducePow, Tryz.f48, DD, QI, SI, List.take_succ_cons, List.drop_succ_cons]
  refine callK_q annulusref4_EqualReal.call (u1) rfl rfl ?_
  simp -implicitDefEqProofs only [go_sem, simprocAttr, -Int.reducePow, DD, QI, SI, List.take_succ_cons, List.drop_succ_cons]
  refine callK_q annulusref4_EqualReal.call (u2) rfl rfl ?_
  simp -implicitDefEqProofs only [go_sem, simprocAttr, -Int.reducePow, DD, QI, SI, List.take_succ_cons, List.drop_succ_cons]
theorem fmiddle_s {x y z w : Dyadic} (hx : DB x B) (hy : DB y B) (hz : DB z B) (hw : DB w B) (hB : B ≤ 15000) : Sat CT false 108 [QI x y z w] (CI ⟨mid x y, mid z w⟩) := by
  refine sat_of annulusref8_Middle.ok (by simp) ?_
  have DD := annulusref8_Middle.dr
  simp only [drP, drPx, drPt, drR, drS, drT, bodyOf, Tryz.f108, Nat.reduceEqDiff, reduceIte, true_and, and_true] at DD
  have u1 := radd4 hx hy (by omega) (by omega)
  have u2 := rscale4_k (hx.add hy) (-1) (by decide) (by omega)
  have u3 := radd4 hz hw (by omega) (by omega)
  have u4 := rscale4_k (hz.add hw) (-1) (by decide) (by omega)
  unfold mid
  simp -implicitDefEqProofs only [go_sem, simprocAttr, -Int.reducePow, Tryz.f108, DD, QI, List.take_succ_cons, List.drop_succ_cons]
  refine callK_q annulusref4_Add.call (u1) rfl rfl ?_
  simp -implicitDefEqProofs only [go_sem, simprocAttr, -Int.reducePow, DD, QI, List.take_succ_cons, List.drop_succ_cons]
  refine callK_q annulusref4_Scale.call (u2) rfl rfl ?_
  simp -implicitDefEqProofs only [go_sem, simprocAttr, -Int.reducePow, DD, QI, List.take_succ_cons, List.drop_succ_cons]
  refine callK_q annulusref4_Add.call (u3) rfl rfl ?_
  simp -implicitDefEqProofs only [go_sem, simprocAttr, -Int.reducePow, DD, QI, List.take_succ_cons, List.drop_succ_cons]
  refine callK_q annulusref4_Scale.call (u4) rfl rfl ?_
  simp -implicitDefEqProofs only [go_sem, simprocAttr, -Int.reducePow, DD, QI, List.take_succ_cons, List.drop_succ_cons]
theorem faround_s {x y z w : Dyadic} (hx : DB x B) (hy : DB y B) (hz : DB z B) (hw : DB w B) (hB : B ≤ 5280) (p : Int) (hp : heldP p ≤ 400) : Sat CT false 47 [QI x y z w, I64 p] (TI ⟨mid x y, mid z w⟩ (far ((⟨y, w⟩ : Cx) - ⟨mid x y, mid z w⟩) (heldP p) true)) := by
  refine sat_of annulusref8_Around.ok (by simp) ?_
  have DD := annulusref8_Around.dr
  simp only [drP, drPx, drPt, drR, drS, drT, bodyOf, Tryz.f47, Nat.reduceEqDiff, reduceIte, true_and, and_true] at DD
  have u1 := fmiddle_s hx hy hz hw (by omega)
  have bm : CB (⟨mid x y, mid z w⟩ : Cx) (B + 3) := ⟨mid_db hx hy, mid_db hz hw⟩
  have bx : CB (⟨y, w⟩ : Cx) B := ⟨hy, hw⟩
  have v1 := rsub8 bx bm (by omega) (by omega)
  have bc := CB.sub' bx bm
  have f1 := ffar_s bc (by omega) p hp
  unfold QI at u1
  simp -implicitDefEqProofs only [go_sem, simprocAttr, -Int.reducePow, Tryz.f47, DD, QI, TI, List.take_succ_cons, List.drop_succ_cons]
  refine callK_q annulusref8_Middle.call (u1) rfl rfl ?_
  simp -implicitDefEqProofs only [go_sem, simprocAttr, -Int.reducePow, DD, QI, TI, List.take_succ_cons, List.drop_succ_cons]
  refine callK_q annulusref8_Sub.call (v1) rfl rfl ?_
  simp -implicitDefEqProofs only [go_sem, simprocAttr, -Int.reducePow, DD, QI, TI, List.take_succ_cons, List.drop_succ_cons]
  refine callK_q annulusref8_Far.call (f1) rfl rfl ?_
  simp -implicitDefEqProofs only [go_sem, simprocAttr, -Int.reducePow, DD, QI, TI, List.take_succ_cons, List.drop_succ_cons]
theorem fsquare_s (hc : CB c B) (hr : DB r B') (hB : B ≤ 19000) (hB' : B' ≤ 19000) : Sat CT false 50 [CI c, DI r] (QI (c.re - r) (c.re + r) (c.im - r) (c.im + r)) := by
  refine sat_of annulusref8_Square.ok (by simp) ?_
  have DD := annulusref8_Square.dr
  simp only [drP, drPx, drPt, drR, drS, drT, bodyOf, Tryz.f50, Nat.reduceEqDiff, reduceIte, true_and, and_true] at DD
  have u1 := rsub4 hc.1 hr (by omega) (by omega)
  have u2 := radd4 hc.1 hr (by omega) (by omega)
  have u3 := rsub4 hc.2 hr (by omega) (by omega)
  have u4 := radd4 hc.2 hr (by omega) (by omega)
  simp -implicitDefEqProofs only [go_sem, simprocAttr, -Int.reducePow, Tryz.f50, DD, QI, List.take_succ_cons, List.drop_succ_cons]
  refine callK_q annulusref4_Sub.call (u1) rfl rfl ?_
  simp -implicitDefEqProofs only [go_sem, simprocAttr, -Int.reducePow, DD, QI, List.take_succ_cons, List.drop_succ_cons]
  refine callK_q annulusref4_Add.call (u2) rfl rfl ?_
  simp -implicitDefEqProofs only [go_sem, simprocAttr, -Int.reducePow, DD, QI, List.take_succ_cons, List.drop_succ_cons]
  refine callK_q annulusref4_Sub.call (u3) rfl rfl ?_
  simp -implicitDefEqProofs only [go_sem, simprocAttr, -Int.reducePow, DD, QI, List.take_succ_cons, List.drop_succ_cons]
  refine callK_q annulusref4_Add.call (u4) rfl rfl ?_
  simp -implicitDefEqProofs only [go_sem, simprocAttr, -Int.reducePow, DD, QI, List.take_succ_cons, List.drop_succ_cons]
end Go.Ab

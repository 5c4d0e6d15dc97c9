/- Contracts of this seat's functions (of each call: what it answers), walked over the abstract machine, and the laws of numbers that they want. Conditions: those that each theorem states. -/
import Derived.Test.YtikhbokeaikcpaaGreatDoorFL7
set_option linter.unusedVariables false
set_option maxRecDepth 20000
set_option linter.unusedSimpArgs false
set_option linter.unusedSectionVars false
namespace Go.Ab
open Go.Proofs
open Cx (zero one)
attribute [-go_sem] appF newsF
variable {a b : AV} {x y r s t : Dyadic} {z w c d e : Cx} {B C n m : Nat}
/-! all that is reckoned exactly of points -/
theorem fnorm_s (hz : CB z B) (hB : B ≤ 9900) : Sat CT false 27 [CI z] (DI (nrm z)) := by
  refine sat_of annulusref8_Norm.ok (by simp) ?_
  have DD := annulusref8_Norm.dr
  simp only [drP, drPx, drPt, drR, drS, drT, bodyOf, Tryz.f27, Nat.reduceEqDiff, reduceIte, true_and, and_true] at DD
  unfold nrm
  have u1 := rmul4 (RD_D hz.1) (RD_D hz.1) (by omega) (by omega)
  have u2 := rmul4 (RD_D hz.2) (RD_D hz.2) (by omega) (by omega)
  have u3 := radd4 (hz.1.mul hz.1) (hz.2.mul hz.2) (by omega) (by omega)
  simp -implicitDefEqProofs only [go_sem, simprocAttr, -Int.reducePow, Tryz.f27, DD, List.take_succ_cons, List.drop_succ_cons]
  refine callK_q annulusref4_Mul.call (u1) rfl rfl ?_
  simp -implicitDefEqProofs only [go_sem, simprocAttr, -Int.reducePow, DD, List.take_succ_cons, List.drop_succ_cons]
  refine callK_q annulusref4_Mul.call (u2) rfl rfl ?_
  simp -implicitDefEqProofs only [go_sem, simprocAttr, -Int.reducePow, DD, List.take_succ_cons, List.drop_succ_cons]
  refine callK_q annulusref4_Add.call (u3) rfl rfl ?_
  simp -implicitDefEqProofs only [go_sem, simprocAttr, -Int.reducePow, DD, List.take_succ_cons, List.drop_succ_cons]
set_option maxHeartbeats 1000000 in
theorem fpow8_s (hc : CB c B) (hB : B ≤ 1400) (k : Int) (hk : k ≤ 8) : Sat CT false 33 [CI c, I64 k] (CI (zpw c k.toNat)) := by
  refine sat_of annulusref8_Pow.ok (by simp) ?_
  have DD := annulusref8_Pow.dr
  simp only [drP, drPx, drPt, drR, drS, drT, bodyOf, Tryz.f33, Nat.reduceEqDiff, reduceIte, true_and, and_true] at DD
  have g1 : Sat CT false 15 [I64 1, I64 0] (CI (zpw c 0)) := rof8_sat 1 0 (by decide) (by decide) (by decide) (by decide)
  obtain ⟨K, hK⟩ : ∃ K, K = k.toNat := ⟨_, rfl⟩
  rw [← hK]
  have mu : ∀ i, i < K → Sat CT false 21 [CI (zpw c i), CI c] (CI (zpw c (i + 1))) := fun i hi => rmul8 (zpw_cb hc i) hc (by have := Nat.mul_le_mul (show i ≤ 7 by omega) (show B + 1 ≤ 1401 by omega); omega)
  simp -implicitDefEqProofs only [go_sem, simprocAttr, -Int.reducePow, Tryz.f33, DD, List.take_succ_cons, List.drop_succ_cons]
  refine callK_q annulusref8_Of.call (g1) rfl rfl ?_
  simp -implicitDefEqProofs only [go_sem, simprocAttr, -Int.reducePow, DD, List.take_succ_cons, List.drop_succ_cons]
  refine loop_of aW0_mono (fun u σ => ∃ sl i, σ = ⟨sl, [⟨CIc c, true, true⟩, ⟨zc6, true, true⟩, ⟨CIc (zpw c i), true, true⟩]⟩ ∧ u = K - i ∧ i ≤ K ∧ look sl 1 = I64 k ∧ look sl 2 = .ptr 0 0 ∧ look sl 4 = .ptr 1 0 ∧ look sl 5 = .ptr 2 0 ∧ look sl 6 = I64 (i : Nat)) ?_ (n := K)
    ⟨_, 0, rfl, rfl, Nat.zero_le _, by simp [x_look], by simp [x_look], by simp [x_look], by simp [x_look], by simp [x_look]⟩
  rintro u _ ⟨sl, i, rfl, rfl, hi, k1, k2, k4, k5, k6⟩
  by_cases hid : i = K
  · have c1 : ¬ (i : Int) < min k 64 := by omega
    rw [← hid]
    simp -implicitDefEqProofs only [go_sem, simprocAttr, -Int.reducePow, DD, x_app, x_ga0, x_gas, x_gan, Int.cast_ofNat_Int, eq_self, Int.zero_lt_one, Bool.not_false, Bool.not_true, beq_self_eq_true, WI, IA, DI, DA, CI, k1, k2, k4, k5, k6, c1, CIc, zc6]
  · have c1 : (i : Int) < min k 64 := by omega
    have ci : IntKind.i64.wrap ((i : Int) + 1) = ((i + 1 : Nat) : Int) := by rw [wrap_i64 (by omega) (by omega)]; omega
    have m1 := mu i (by omega)
    simp -implicitDefEqProofs only [go_sem, simprocAttr, -Int.reducePow, DD, x_app, x_ga0, x_gas, x_gan, Int.cast_ofNat_Int, eq_self, Int.zero_lt_one, Bool.not_false, Bool.not_true, beq_self_eq_true, k1, k2, k4, k5, k6, c1, ci]
    refine callK_pl annulusref8_Mul.call (m1) (pl2 (pld_CI _) (pld_CI _)) ?_
    simp -implicitDefEqProofs only [go_sem, simprocAttr, -Int.reducePow, DD, x_app, x_ga0, x_gas, x_gan, Int.cast_ofNat_Int, eq_self, Int.zero_lt_one, Bool.not_false, Bool.not_true, beq_self_eq_true, k1, k2, k4, k5, k6, c1, ci]
    exact ⟨K - (i + 1), by omega, _, i + 1, rfl, rfl, by omega, by simp [x_look, k1], by simp [x_look, k2], by simp [x_look, k4], by simp [x_look, k5], by simp [x_look]⟩
theorem dv1_db (k : Int) (hk : k.natAbs ≤ 2000) : DB (dv 1 k) 2001 := DB.raw (m := 1) (e := k) (L := 1) (E := 2000) (by decide) (by omega) (by decide)
section
attribute [local go_sem] List.cons_append List.length_cons List.set_cons_succ List.getD_cons_succ List.getD_cons_zero List.set_cons_zero x_hset x_hget
set_option maxHeartbeats 8000000 in
theorem gaussTells_sat (X : Raw) (hX : X.ok) (Y : Raw) (hY : Y.ok) (dn : Bool) (dl : List Nat) (de : Int) (hD : Lm dl) (n : Int) (hn : -9223372036854775808 ≤ n ∧ n ≤ 9223372036854775807) (re : Int) (hre : -9223372036854775808 ≤ re ∧ re ≤ 9223372036854775807) (im : Int) (him : -9223372036854775808 ≤ im ∧ im ≤ 9223372036854775807) :
    Sat CT false 3 [.agg X.cells, .agg Y.cells, DA dn dl de, I64 n, I64 re, I64 im] (Bo true) := by
  refine sat_of annuluslaw8_GaussTells.ok (by simp) ?_
  have DD := annuluslaw8_GaussTells.dr
  simp only [drP, drPx, drPt, drR, drS, drT, bodyOf, Tryz.f3, Nat.reduceEqDiff, reduceIte, true_and, and_true] at DD
  have k0 := known8_s
  obtain ⟨xn, xl, xe, xm, xk, xf⟩ := X
  obtain ⟨yn, yl, ye, ym, yk, yf⟩ := Y
  have f1 := fewC_s xn xl xe xm xk xf
  have f2 := fewC_s yn yl ye ym yk yf
  have f3 := few8_s dn dl de
  simp only [Raw.cells] at *
  by_cases q1 : few1 xl xe ∧ few1 xk xf
  · rw [decide_eq_true q1] at f1
    by_cases q2 : few1 yl ye ∧ few1 yk yf
    · rw [decide_eq_true q2] at f2
      by_cases q3 : few1 dl de
      · rw [decide_eq_true q3] at f3
        have rx := Raw.rc10 hX q1
        have ry := Raw.rc10 hY q2
        have rd := rd10 (n := dn) hD q3
        have mk := make_sat dn dl de hD (Nat.lt_of_le_of_lt q3.1 (by decide)) ((nv_Lt2 hD q3.1).mono (by decide)) (by have := q3.2; omega)
        simp only [Raw.cells] at rx ry
        generalize Raw.z ⟨xn, xl, xe, xm, xk, xf⟩ = x at *
        generalize Raw.z ⟨yn, yl, ye, ym, yk, yf⟩ = y at *
        generalize dv (iv dn dl) de = d at *
        have cx := rx.cb
        have cy := ry.cb
        have cd := rd.db
        have a1 := rcplx_r rx (by decide)
        have a2 := rcplx_r ry (by decide)
        have a3 := rneg4 cx.2 (by decide)
        obtain ⟨s, hs⟩ : ∃ s, max (-2000) (min n 2000) = s := ⟨_, rfl⟩
        obtain ⟨k, hk⟩ : ∃ k, min n 8 = k := ⟨_, rfl⟩
        have hs2 : s.natAbs ≤ 2000 := by omega
        have a4 := rscale4_k cx.1 s (by omega) (by decide)
        have a5 := rscale4_k cx.2 s (by omega) (by decide)
        have b1 : Sat CT false 14 [I64 re, I64 im] (CI (zI re im)) := gof_sat re im hre.1 hre.2 him.1 him.2
        have b2 : Sat CT false 15 [I64 re, I64 im] (CI (zI re im)) := rof8_sat re im hre.1 hre.2 him.1 him.2
        have b3 := requal8 (zI_db1 (a := re) (b := im) (by omega) (by omega)) (by decide)
        have u1 := gadd_r rx ry (by decide) (by decide)
        have u2 := radd8 cx cy (by decide) (by decide)
        have u3 := requal8 (CB.add' cx cy) (by decide)
        have v1 := gsub_r rx ry (by decide) (by decide)
        have v2 := rsub8 cx cy (by decide) (by decide)
        have v3 := requal8 (CB.sub' cx cy) (by decide)
        have m1 := gmul_r rx ry (by decide)
        have m2 := rmul8 cx cy (by decide)
        have m3 := requal8 (cx.mul cy) (by decide)
        have n1 := gneg_r rx (by decide)
        have n2 := rneg8 cx (by decide)
        have n3 := requal8 cx.neg (by decide)
        have c1 := gconj_r rx (by decide)
        have c2 := requal8 cx.cnj (by decide)
        have p1 := gnorm_r rx (by decide)
        have p2 := fnorm_s cx (by decide)
        have p3 := requal4d (nrm_db cx) (nrm_db cx) (by decide) (by decide)
        rw [decT rfl] at p3
        have t1 := gscale_k rx (by decide) s (by omega)
        have bs := dv1_db s hs2
        have cs : CB ⟨x.re * dv 1 s, x.im * dv 1 s⟩ (1320 + 2001) := ⟨cx.1.mul bs, cx.2.mul bs⟩
        have t2 := requal8 cs (by decide)
        have z1 := gtimes_r rx rd (by decide)
        have z2 := rtimes8 cx cd (by decide)
        have cz : CB ⟨x.re * d, x.im * d⟩ (1320 + 1320) := ⟨cx.1.mul cd, cx.2.mul cd⟩
        have z3 := requal8 cz (by decide)
        have w1 := gpow_r rx (by decide) k (by omega)
        have w2 := fpow8_s cx (by decide) k (by omega)
        have w3 := requal8 ((zpw_cb cx k.toNat).mono (C := 10700) (by have := Nat.mul_le_mul_right 1321 (show k.toNat ≤ 8 by omega); omega)) (by decide)
        have o1 := gzero_r rx (by decide)
        have o2 := rzero_r (RC_C cx) (by decide)
        have e1 := gsame_r rx ry (by decide) (by decide)
        have e2 := requal8d cx cy (by decide) (by decide)
        simp -implicitDefEqProofs only [go_sem, simprocAttr, -Int.reducePow, Tryz.f3, DD, List.take_succ_cons, List.drop_succ_cons, hs, hk, DA]
        refine callK_q annuluslaw8_known.call (k0) rfl rfl ?_
        simp -implicitDefEqProofs only [go_sem, simprocAttr, -Int.reducePow, DD, List.take_succ_cons, List.drop_succ_cons, hs, hk, DA]
        refine callK_q annuluslaw8_fewCplx.call (f1) rfl rfl ?_
        simp -implicitDefEqProofs only [go_sem, simprocAttr, -Int.reducePow, DD, List.take_succ_cons, List.drop_succ_cons, hs, hk, DA]
        refine callK_q annuluslaw8_fewCplx.call (f2) rfl rfl ?_
        simp -implicitDefEqProofs only [go_sem, simprocAttr, -Int.reducePow, DD, List.take_succ_cons, List.drop_succ_cons, hs, hk, DA]
        refine callK_q annuluslaw8_few.call (f3) rfl rfl ?_
        simp -implicitDefEqProofs only [go_sem, simprocAttr, -Int.reducePow, DD, List.take_succ_cons, List.drop_succ_cons, hs, hk, DA]
        refine callK_q annulusref8_Cplx.call (a1) rfl rfl ?_
        simp -implicitDefEqProofs only [go_sem, simprocAttr, -Int.reducePow, DD, List.take_succ_cons, List.drop_succ_cons, hs, hk, DA]
        refine callK_q annulusref8_Cplx.call (a2) rfl rfl ?_
        simp -implicitDefEqProofs only [go_sem, simprocAttr, -Int.reducePow, DD, List.take_succ_cons, List.drop_succ_cons, hs, hk, DA]
        refine callK_q annulusref4_Neg.call (a3) rfl rfl ?_
        simp -implicitDefEqProofs only [go_sem, simprocAttr, -Int.reducePow, DD, List.take_succ_cons, List.drop_succ_cons, hs, hk, DA]
        refine callK_q annulusref4_Scale.call (a4) rfl rfl ?_
        simp -implicitDefEqProofs only [go_sem, simprocAttr, -Int.reducePow, DD, List.take_succ_cons, List.drop_succ_cons, hs, hk, DA]
        refine callK_q annulusref4_Scale.call (a5) rfl rfl ?_
        simp -implicitDefEqProofs only [go_sem, simprocAttr, -Int.reducePow, DD, List.take_succ_cons, List.drop_succ_cons, hs, hk, DA]
        refine callK_q gauss_Of.call (b1) rfl rfl ?_
        simp -implicitDefEqProofs only [go_sem, simprocAttr, -Int.reducePow, DD, List.take_succ_cons, List.drop_succ_cons, hs, hk, DA]
        refine callK_q annulusref8_Of.call (b2) rfl rfl ?_
        simp -implicitDefEqProofs only [go_sem, simprocAttr, -Int.reducePow, DD, List.take_succ_cons, List.drop_succ_cons, hs, hk, DA]
        refine callK_q annulusref8_Equal.call (b3) rfl rfl ?_
        simp -implicitDefEqProofs only [go_sem, simprocAttr, -Int.reducePow, DD, List.take_succ_cons, List.drop_succ_cons, hs, hk, DA]
        refine callK_q gauss_Add.call (u1) rfl rfl ?_
        simp -implicitDefEqProofs only [go_sem, simprocAttr, -Int.reducePow, DD, List.take_succ_cons, List.drop_succ_cons, hs, hk, DA]
        refine callK_q annulusref8_Add.call (u2) rfl rfl ?_
        simp -implicitDefEqProofs only [go_sem, simprocAttr, -Int.reducePow, DD, List.take_succ_cons, List.drop_succ_cons, hs, hk, DA]
        refine callK_q annulusref8_Equal.call (u3) rfl rfl ?_
        simp -implicitDefEqProofs only [go_sem, simprocAttr, -Int.reducePow, DD, List.take_succ_cons, List.drop_succ_cons, hs, hk, DA]
        refine callK_q gauss_Sub.call (v1) rfl rfl ?_
        simp -implicitDefEqProofs only [go_sem, simprocAttr, -Int.reducePow, DD, List.take_succ_cons, List.drop_succ_cons, hs, hk, DA]
        refine callK_q annulusref8_Sub.call (v2) rfl rfl ?_
        simp -implicitDefEqProofs only [go_sem, simprocAttr, -Int.reducePow, DD, List.take_succ_cons, List.drop_succ_cons, hs, hk, DA]
        refine callK_q annulusref8_Equal.call (v3) rfl rfl ?_
        simp -implicitDefEqProofs only [go_sem, simprocAttr, -Int.reducePow, DD, List.take_succ_cons, List.drop_succ_cons, hs, hk, DA]
        refine callK_q gauss_Mul.call (m1) rfl rfl ?_
        simp -implicitDefEqProofs only [go_sem, simprocAttr, -Int.reducePow, DD, List.take_succ_cons, List.drop_succ_cons, hs, hk, DA]
        refine callK_q annulusref8_Mul.call (m2) rfl rfl ?_
        simp -implicitDefEqProofs only [go_sem, simprocAttr, -Int.reducePow, DD, List.take_succ_cons, List.drop_succ_cons, hs, hk, DA]
        refine callK_q annulusref8_Equal.call (m3) rfl rfl ?_
        simp -implicitDefEqProofs only [go_sem, simprocAttr, -Int.reducePow, DD, List.take_succ_cons, List.drop_succ_cons, hs, hk, DA]
        refine callK_q gauss_Neg.call (n1) rfl rfl ?_
        simp -implicitDefEqProofs only [go_sem, simprocAttr, -Int.reducePow, DD, List.take_succ_cons, List.drop_succ_cons, hs, hk, DA]
        refine callK_q annulusref8_Neg.call (n2) rfl rfl ?_
        simp -implicitDefEqProofs only [go_sem, simprocAttr, -Int.reducePow, DD, List.take_succ_cons, List.drop_succ_cons, hs, hk, DA]
        refine callK_q annulusref8_Equal.call (n3) rfl rfl ?_
        simp -implicitDefEqProofs only [go_sem, simprocAttr, -Int.reducePow, DD, List.take_succ_cons, List.drop_succ_cons, hs, hk, DA]
        refine callK_q gauss_Conj.call (c1) rfl rfl ?_
        simp -implicitDefEqProofs only [go_sem, simprocAttr, -Int.reducePow, DD, List.take_succ_cons, List.drop_succ_cons, hs, hk, DA]
        refine callK_q annulusref8_Equal.call (c2) rfl rfl ?_
        simp -implicitDefEqProofs only [go_sem, simprocAttr, -Int.reducePow, DD, List.take_succ_cons, List.drop_succ_cons, hs, hk, DA]
        refine callK_q gauss_Norm.call (p1) rfl rfl ?_
        simp -implicitDefEqProofs only [go_sem, simprocAttr, -Int.reducePow, DD, List.take_succ_cons, List.drop_succ_cons, hs, hk, DA]
        refine callK_q annulusref8_Norm.call (p2) rfl rfl ?_
        simp -implicitDefEqProofs only [go_sem, simprocAttr, -Int.reducePow, DD, List.take_succ_cons, List.drop_succ_cons, hs, hk, DA]
        refine callK_q annulusref4_Equal.call (p3) rfl rfl ?_
        simp -implicitDefEqProofs only [go_sem, simprocAttr, -Int.reducePow, DD, List.take_succ_cons, List.drop_succ_cons, hs, hk, DA]
        refine callK_q gauss_Scale.call (t1) rfl rfl ?_
        simp -implicitDefEqProofs only [go_sem, simprocAttr, -Int.reducePow, DD, List.take_succ_cons, List.drop_succ_cons, hs, hk, DA]
        refine callK_q annulusref8_Equal.call (t2) rfl rfl ?_
        simp -implicitDefEqProofs only [go_sem, simprocAttr, -Int.reducePow, DD, List.take_succ_cons, List.drop_succ_cons, hs, hk, DA]
        refine callK_q gauss_Times.call (z1) rfl rfl ?_
        simp -implicitDefEqProofs only [go_sem, simprocAttr, -Int.reducePow, DD, List.take_succ_cons, List.drop_succ_cons, hs, hk, DA]
        refine callK_q annulusref4_Make.call (mk) rfl rfl ?_
        simp -implicitDefEqProofs only [go_sem, simprocAttr, -Int.reducePow, DD, List.take_succ_cons, List.drop_succ_cons, hs, hk, DA]
        refine callK_q annulusref8_Times.call (z2) rfl rfl ?_
        simp -implicitDefEqProofs only [go_sem, simprocAttr, -Int.reducePow, DD, List.take_succ_cons, List.drop_succ_cons, hs, hk, DA]
        refine callK_q annulusref8_Equal.call (z3) rfl rfl ?_
        simp -implicitDefEqProofs only [go_sem, simprocAttr, -Int.reducePow, DD, List.take_succ_cons, List.drop_succ_cons, hs, hk, DA]
        refine callK_q gauss_Pow.call (w1) rfl rfl ?_
        simp -implicitDefEqProofs only [go_sem, simprocAttr, -Int.reducePow, DD, List.take_succ_cons, List.drop_succ_cons, hs, hk, DA]
        refine callK_q annulusref8_Pow.call (w2) rfl rfl ?_
        simp -implicitDefEqProofs only [go_sem, simprocAttr, -Int.reducePow, DD, List.take_succ_cons, List.drop_succ_cons, hs, hk, DA]
        refine callK_q annulusref8_Equal.call (w3) rfl rfl ?_
        simp -implicitDefEqProofs only [go_sem, simprocAttr, -Int.reducePow, DD, List.take_succ_cons, List.drop_succ_cons, hs, hk, DA]
        refine callK_q gauss_Zero.call (o1) rfl rfl ?_
        simp -implicitDefEqProofs only [go_sem, simprocAttr, -Int.reducePow, DD, List.take_succ_cons, List.drop_succ_cons, hs, hk, DA]
        refine callK_q annulusref8_Zero.call (o2) rfl rfl ?_
        simp -implicitDefEqProofs only [go_sem, simprocAttr, -Int.reducePow, DD, List.take_succ_cons, List.drop_succ_cons, hs, hk, DA]
        refine callK_q gauss_Same.call (e1) rfl rfl ?_
        simp -implicitDefEqProofs only [go_sem, simprocAttr, -Int.reducePow, DD, List.take_succ_cons, List.drop_succ_cons, hs, hk, DA]
        refine callK_q annulusref8_Equal.call (e2) rfl rfl ?_
        simp -implicitDefEqProofs only [go_sem, simprocAttr, -Int.reducePow, DD, List.take_succ_cons, List.drop_succ_cons, hs, hk, DA]
      · rw [decide_eq_false q3] at f3
        simp -implicitDefEqProofs only [go_sem, simprocAttr, -Int.reducePow, Tryz.f3, DD, List.take_succ_cons, List.drop_succ_cons, DA]
        refine callK_q annuluslaw8_known.call (k0) rfl rfl ?_
        simp -implicitDefEqProofs only [go_sem, simprocAttr, -Int.reducePow, DD, List.take_succ_cons, List.drop_succ_cons, DA]
        refine callK_q annuluslaw8_fewCplx.call (f1) rfl rfl ?_
        simp -implicitDefEqProofs only [go_sem, simprocAttr, -Int.reducePow, DD, List.take_succ_cons, List.drop_succ_cons, DA]
        refine callK_q annuluslaw8_fewCplx.call (f2) rfl rfl ?_
        simp -implicitDefEqProofs only [go_sem, simprocAttr, -Int.reducePow, DD, List.take_succ_cons, List.drop_succ_cons, DA]
        refine callK_q annuluslaw8_few.call (f3) rfl rfl ?_
        simp -implicitDefEqProofs only [go_sem, simprocAttr, -Int.reducePow, DD, List.take_succ_cons, List.drop_succ_cons, DA]
    · rw [decide_eq_false q2] at f2
      simp -implicitDefEqProofs only [go_sem, simprocAttr, -Int.reducePow, Tryz.f3, DD, List.take_succ_cons, List.drop_succ_cons, DA]
      refine callK_q annuluslaw8_known.call (k0) rfl rfl ?_
      simp -implicitDefEqProofs only [go_sem, simprocAttr, -Int.reducePow, DD, List.take_succ_cons, List.drop_succ_cons, DA]
      refine callK_q annuluslaw8_fewCplx.call (f1) rfl rfl ?_
      simp -implicitDefEqProofs only [go_sem, simprocAttr, -Int.reducePow, DD, List.take_succ_cons, List.drop_succ_cons, DA]
      refine callK_q annuluslaw8_fewCplx.call (f2) rfl rfl ?_
      simp -implicitDefEqProofs only [go_sem, simprocAttr, -Int.reducePow, DD, List.take_succ_cons, List.drop_succ_cons, DA]
  · rw [decide_eq_false q1] at f1
    simp -implicitDefEqProofs only [go_sem, simprocAttr, -Int.reducePow, Tryz.f3, DD, List.take_succ_cons, List.drop_succ_cons, DA]
    refine callK_q annuluslaw8_known.call (k0) rfl rfl ?_
    simp -implicitDefEqProofs only [go_sem, simprocAttr, -Int.reducePow, DD, List.take_succ_cons, List.drop_succ_cons, DA]
    refine callK_q annuluslaw8_fewCplx.call (f1) rfl rfl ?_
    simp -implicitDefEqProofs only [go_sem, simprocAttr, -Int.reducePow, DD, List.take_succ_cons, List.drop_succ_cons, DA]
end
end Go.Ab

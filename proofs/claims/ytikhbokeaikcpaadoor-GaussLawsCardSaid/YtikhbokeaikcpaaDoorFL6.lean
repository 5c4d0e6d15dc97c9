/- Contracts of this seat's functions (of each call: what it answers), walked over the abstract machine, and the laws of numbers that they want. Conditions: those that each theorem states. -/
import Derived.Test.YtikhbokeaikcpaaDoorFL5
import Derived.Test.YtikhbokeaikcpaaDoorP9
set_option linter.unusedVariables false
set_option maxRecDepth 20000
set_option linter.unusedSimpArgs false
set_option linter.unusedSectionVars false
namespace Go.Ab
open Go.Proofs
open Cx (zero one)
attribute [-go_sem] appF newsF
variable {a b : AV} {x y r s t : Dyadic} {z w c d e : Cx} {B C n m : Nat}
/-! the laws of points -/
theorem cx_dist (z w c : Cx) : z * (w + c) = z * w + z * c := Cx.ext' (by show z.re * (w.re + c.re) - z.im * (w.im + c.im) = z.re * w.re - z.im * w.im + (z.re * c.re - z.im * c.im); grind) (by show z.re * (w.im + c.im) + z.im * (w.re + c.re) = z.re * w.im + z.im * w.re + (z.re * c.im + z.im * c.re); grind)
theorem cx_comm (z w : Cx) : z * w = w * z := Cx.ext' (by show z.re * w.re - z.im * w.im = w.re * z.re - w.im * z.im; grind) (by show z.re * w.im + z.im * w.re = w.re * z.im + w.im * z.re; grind)
theorem cx_cnj (z w : Cx) : cnj (z * w) = cnj z * cnj w := Cx.ext' (by show z.re * w.re - z.im * w.im = z.re * w.re - -z.im * -w.im; grind) (by show -(z.re * w.im + z.im * w.re) = z.re * -w.im + -z.im * w.re; grind)
theorem cx_nrm (z w : Cx) : nrm (z * w) = nrm z * nrm w := by
  show (z.re * w.re - z.im * w.im) * (z.re * w.re - z.im * w.im) + (z.re * w.im + z.im * w.re) * (z.re * w.im + z.im * w.re) = (z.re * z.re + z.im * z.im) * (w.re * w.re + w.im * w.im)
  grind
theorem cx_back (z w : Cx) : z + w - w = z := Cx.ext' (by show z.re + w.re - w.re = z.re; grind) (by show z.im + w.im - w.im = z.im; grind)
theorem sq_nn' (q : Rat) : 0 ≤ q * q := by
  rcases Rat.le_total (a := 0) (b := q) with h | h
  · exact Rat.mul_nonneg h h
  · have : q * q = (-q) * (-q) := by grind
    rw [this]
    exact Rat.mul_nonneg (by grind) (by grind)
theorem nrm_zero : (dnum (nrm z)).sign = 0 ↔ z = zero := by
  rw [Int.sign_eq_zero_iff_zero, dnum_zero]
  constructor
  · intro h
    have h1 := congrArg Dyadic.toRat h
    have h1 : (z.re * z.re + z.im * z.im).toRat = (0 : Dyadic).toRat := h1
    rw [Dyadic.toRat_add, Dyadic.toRat_mul, Dyadic.toRat_mul, Dyadic.toRat_zero] at h1
    have a1 := sq_nn' z.re.toRat
    have a2 := sq_nn' z.im.toRat
    have b1 : z.re.toRat * z.re.toRat = 0 := by grind
    have b2 : z.im.toRat * z.im.toRat = 0 := by grind
    have c1 : z.re.toRat = 0 := by rcases Rat.mul_eq_zero.1 b1 with h | h <;> exact h
    have c2 : z.im.toRat = 0 := by rcases Rat.mul_eq_zero.1 b2 with h | h <;> exact h
    rw [← Dyadic.toRat_zero, Dyadic.toRat_inj] at c1 c2
    exact Cx.ext' c1 c2
  · intro h
    rw [h]
    show (0 : Dyadic) * 0 + 0 * 0 = 0
    grind
theorem decT {p : Prop} [Decidable p] (h : p) : decide p = true := decide_eq_true h
set_option maxHeartbeats 4000000 in
theorem gaussLaws_sat (X : Raw) (hX : X.ok) (Y : Raw) (hY : Y.ok) (Z : Raw) (hZ : Z.ok) : Sat CT false 5 [.agg X.cells, .agg Y.cells, .agg Z.cells] (Bo true) := by
  refine sat_of annuluslaw8_GaussLaws.ok (by simp) ?_
  have DD := annuluslaw8_GaussLaws.dr
  simp only [drP, drPx, drPt, drR, drS, drT, bodyOf, Tryd.f5, Nat.reduceEqDiff, reduceIte, true_and, and_true] at DD
  have k0 := known8_s
  obtain ⟨xn, xl, xe, xm, xk, xf⟩ := X
  obtain ⟨yn, yl, ye, ym, yk, yf⟩ := Y
  obtain ⟨zn, zl, ze, zm, zk, zf⟩ := Z
  have f1 := fewC_s xn xl xe xm xk xf
  have f2 := fewC_s yn yl ye ym yk yf
  have f3 := fewC_s zn zl ze zm zk zf
  simp only [Raw.cells] at *
  by_cases q1 : few1 xl xe ∧ few1 xk xf
  · rw [decide_eq_true q1] at f1
    by_cases q2 : few1 yl ye ∧ few1 yk yf
    · rw [decide_eq_true q2] at f2
      by_cases q3 : few1 zl ze ∧ few1 zk zf
      · rw [decide_eq_true q3] at f3
        have rx := Raw.rc10 hX q1
        have ry := Raw.rc10 hY q2
        have rz := Raw.rc10 hZ q3
        simp only [Raw.cells] at rx ry rz
        generalize Raw.z ⟨xn, xl, xe, xm, xk, xf⟩ = x at *
        generalize Raw.z ⟨yn, yl, ye, ym, yk, yf⟩ = y at *
        generalize Raw.z ⟨zn, zl, ze, zm, zk, zf⟩ = z at *
        have cx := rx.cb
        have cy := ry.cb
        have cz := rz.cb
        have u1 := gadd_r ry rz (by decide) (by decide)
        have b1 := CB.add' cy cz
        have u2 := gmul_r rx (RC_C b1) (by decide)
        have b2 := cx.mul b1
        have u3 := gmul_r rx ry (by decide)
        have b3 := cx.mul cy
        have u4 := gmul_r rx rz (by decide)
        have b4 := cx.mul cz
        have u5 := gadd_r (RC_C b3) (RC_C b4) (by decide) (by decide)
        have b5 := CB.add' b3 b4
        have s1 := gsame_r (RC_C b2) (RC_C b5) (by decide) (by decide)
        rw [decT (cx_dist x y z)] at s1
        have u6 := gmul_r ry rx (by decide)
        have b6 := cy.mul cx
        have s2 := gsame_r (RC_C b3) (RC_C b6) (by decide) (by decide)
        rw [decT (cx_comm x y)] at s2
        have v1 := gconj_r (RC_C b3) (by decide)
        have v2 := gconj_r rx (by decide)
        have v3 := gconj_r ry (by decide)
        have v4 := gmul_r (RC_C cx.cnj) (RC_C cy.cnj) (by decide)
        have s3 := gsame_r (RC_C b3.cnj) (RC_C (cx.cnj.mul cy.cnj)) (by decide) (by decide)
        rw [decT (cx_cnj x y)] at s3
        have n1 := gnorm_r (RC_C b3) (by decide)
        have n2 := gnorm_r rx (by decide)
        have n3 := gnorm_r ry (by decide)
        have n4 := rmul4 (RD_D (nrm_db cx)) (RD_D (nrm_db cy)) (by decide) (by decide)
        have s4 := requal4d (nrm_db b3) ((nrm_db cx).mul (nrm_db cy)) (by decide) (by decide)
        rw [decT (cx_nrm x y)] at s4
        have t1 := gadd_r rx ry (by decide) (by decide)
        have bt := CB.add' cx cy
        have t2 := gsub_r (RC_C bt) ry (by decide) (by decide)
        have s5 := gsame_r (RC_C (CB.sub' bt cy)) rx (by decide) (by decide)
        rw [decT (cx_back x y)] at s5
        have z1 := gzero_r rx (by decide)
        have z2 := rsign4_r (RD_D (nrm_db cx)) (by decide)
        have z3 : decide (x = zero) = decide ((dnum (nrm x)).sign = 0) := decide_eq_decide.2 nrm_zero.symm
        rw [z3] at z1
        simp -implicitDefEqProofs only [go_sem, simprocAttr, -Int.reducePow, Tryd.f5, DD, List.take_succ_cons, List.drop_succ_cons]
        refine callK_q annuluslaw8_known.call (k0) rfl rfl ?_
        simp -implicitDefEqProofs only [go_sem, simprocAttr, -Int.reducePow, DD, List.take_succ_cons, List.drop_succ_cons]
        refine callK_q annuluslaw8_fewCplx.call (f1) rfl rfl ?_
        simp -implicitDefEqProofs only [go_sem, simprocAttr, -Int.reducePow, DD, List.take_succ_cons, List.drop_succ_cons]
        refine callK_q annuluslaw8_fewCplx.call (f2) rfl rfl ?_
        simp -implicitDefEqProofs only [go_sem, simprocAttr, -Int.reducePow, DD, List.take_succ_cons, List.drop_succ_cons]
        refine callK_q annuluslaw8_fewCplx.call (f3) rfl rfl ?_
        simp -implicitDefEqProofs only [go_sem, simprocAttr, -Int.reducePow, DD, List.take_succ_cons, List.drop_succ_cons]
        refine callK_q gauss_Add.call (u1) rfl rfl ?_
        simp -implicitDefEqProofs only [go_sem, simprocAttr, -Int.reducePow, DD, List.take_succ_cons, List.drop_succ_cons]
        refine callK_q gauss_Mul.call (u2) rfl rfl ?_
        simp -implicitDefEqProofs only [go_sem, simprocAttr, -Int.reducePow, DD, List.take_succ_cons, List.drop_succ_cons]
        refine callK_q gauss_Mul.call (u3) rfl rfl ?_
        simp -implicitDefEqProofs only [go_sem, simprocAttr, -Int.reducePow, DD, List.take_succ_cons, List.drop_succ_cons]
        refine callK_q gauss_Mul.call (u4) rfl rfl ?_
        simp -implicitDefEqProofs only [go_sem, simprocAttr, -Int.reducePow, DD, List.take_succ_cons, List.drop_succ_cons]
        refine callK_q gauss_Add.call (u5) rfl rfl ?_
        simp -implicitDefEqProofs only [go_sem, simprocAttr, -Int.reducePow, DD, List.take_succ_cons, List.drop_succ_cons]
        refine callK_q gauss_Same.call (s1) rfl rfl ?_
        simp -implicitDefEqProofs only [go_sem, simprocAttr, -Int.reducePow, DD, List.take_succ_cons, List.drop_succ_cons]
        refine callK_q gauss_Mul.call (u3) rfl rfl ?_
        simp -implicitDefEqProofs only [go_sem, simprocAttr, -Int.reducePow, DD, List.take_succ_cons, List.drop_succ_cons]
        refine callK_q gauss_Mul.call (u6) rfl rfl ?_
        simp -implicitDefEqProofs only [go_sem, simprocAttr, -Int.reducePow, DD, List.take_succ_cons, List.drop_succ_cons]
        refine callK_q gauss_Same.call (s2) rfl rfl ?_
        simp -implicitDefEqProofs only [go_sem, simprocAttr, -Int.reducePow, DD, List.take_succ_cons, List.drop_succ_cons]
        refine callK_q gauss_Mul.call (u3) rfl rfl ?_
        simp -implicitDefEqProofs only [go_sem, simprocAttr, -Int.reducePow, DD, List.take_succ_cons, List.drop_succ_cons]
        refine callK_q gauss_Conj.call (v1) rfl rfl ?_
        simp -implicitDefEqProofs only [go_sem, simprocAttr, -Int.reducePow, DD, List.take_succ_cons, List.drop_succ_cons]
        refine callK_q gauss_Conj.call (v2) rfl rfl ?_
        simp -implicitDefEqProofs only [go_sem, simprocAttr, -Int.reducePow, DD, List.take_succ_cons, List.drop_succ_cons]
        refine callK_q gauss_Conj.call (v3) rfl rfl ?_
        simp -implicitDefEqProofs only [go_sem, simprocAttr, -Int.reducePow, DD, List.take_succ_cons, List.drop_succ_cons]
        refine callK_q gauss_Mul.call (v4) rfl rfl ?_
        simp -implicitDefEqProofs only [go_sem, simprocAttr, -Int.reducePow, DD, List.take_succ_cons, List.drop_succ_cons]
        refine callK_q gauss_Same.call (s3) rfl rfl ?_
        simp -implicitDefEqProofs only [go_sem, simprocAttr, -Int.reducePow, DD, List.take_succ_cons, List.drop_succ_cons]
        refine callK_q gauss_Mul.call (u3) rfl rfl ?_
        simp -implicitDefEqProofs only [go_sem, simprocAttr, -Int.reducePow, DD, List.take_succ_cons, List.drop_succ_cons]
        refine callK_q gauss_Norm.call (n1) rfl rfl ?_
        simp -implicitDefEqProofs only [go_sem, simprocAttr, -Int.reducePow, DD, List.take_succ_cons, List.drop_succ_cons]
        refine callK_q gauss_Norm.call (n2) rfl rfl ?_
        simp -implicitDefEqProofs only [go_sem, simprocAttr, -Int.reducePow, DD, List.take_succ_cons, List.drop_succ_cons]
        refine callK_q gauss_Norm.call (n3) rfl rfl ?_
        simp -implicitDefEqProofs only [go_sem, simprocAttr, -Int.reducePow, DD, List.take_succ_cons, List.drop_succ_cons]
        refine callK_q annulusref4_Mul.call (n4) rfl rfl ?_
        simp -implicitDefEqProofs only [go_sem, simprocAttr, -Int.reducePow, DD, List.take_succ_cons, List.drop_succ_cons]
        refine callK_q annulusref4_Equal.call (s4) rfl rfl ?_
        simp -implicitDefEqProofs only [go_sem, simprocAttr, -Int.reducePow, DD, List.take_succ_cons, List.drop_succ_cons]
        refine callK_q gauss_Add.call (t1) rfl rfl ?_
        simp -implicitDefEqProofs only [go_sem, simprocAttr, -Int.reducePow, DD, List.take_succ_cons, List.drop_succ_cons]
        refine callK_q gauss_Sub.call (t2) rfl rfl ?_
        simp -implicitDefEqProofs only [go_sem, simprocAttr, -Int.reducePow, DD, List.take_succ_cons, List.drop_succ_cons]
        refine callK_q gauss_Same.call (s5) rfl rfl ?_
        simp -implicitDefEqProofs only [go_sem, simprocAttr, -Int.reducePow, DD, List.take_succ_cons, List.drop_succ_cons]
        refine callK_q gauss_Zero.call (z1) rfl rfl ?_
        simp -implicitDefEqProofs only [go_sem, simprocAttr, -Int.reducePow, DD, List.take_succ_cons, List.drop_succ_cons]
        refine callK_q gauss_Norm.call (n2) rfl rfl ?_
        simp -implicitDefEqProofs only [go_sem, simprocAttr, -Int.reducePow, DD, List.take_succ_cons, List.drop_succ_cons]
        refine callK_q annulusref4_Sign.call (z2) rfl rfl ?_
        simp -implicitDefEqProofs only [go_sem, simprocAttr, -Int.reducePow, DD, List.take_succ_cons, List.drop_succ_cons]
      · rw [decide_eq_false q3] at f3
        simp -implicitDefEqProofs only [go_sem, simprocAttr, -Int.reducePow, Tryd.f5, DD, List.take_succ_cons, List.drop_succ_cons]
        refine callK_q annuluslaw8_known.call (k0) rfl rfl ?_
        simp -implicitDefEqProofs only [go_sem, simprocAttr, -Int.reducePow, DD, List.take_succ_cons, List.drop_succ_cons]
        refine callK_q annuluslaw8_fewCplx.call (f1) rfl rfl ?_
        simp -implicitDefEqProofs only [go_sem, simprocAttr, -Int.reducePow, DD, List.take_succ_cons, List.drop_succ_cons]
        refine callK_q annuluslaw8_fewCplx.call (f2) rfl rfl ?_
        simp -implicitDefEqProofs only [go_sem, simprocAttr, -Int.reducePow, DD, List.take_succ_cons, List.drop_succ_cons]
        refine callK_q annuluslaw8_fewCplx.call (f3) rfl rfl ?_
        simp -implicitDefEqProofs only [go_sem, simprocAttr, -Int.reducePow, DD, List.take_succ_cons, List.drop_succ_cons]
    · rw [decide_eq_false q2] at f2
      simp -implicitDefEqProofs only [go_sem, simprocAttr, -Int.reducePow, Tryd.f5, DD, List.take_succ_cons, List.drop_succ_cons]
      refine callK_q annuluslaw8_known.call (k0) rfl rfl ?_
      simp -implicitDefEqProofs only [go_sem, simprocAttr, -Int.reducePow, DD, List.take_succ_cons, List.drop_succ_cons]
      refine callK_q annuluslaw8_fewCplx.call (f1) rfl rfl ?_
      simp -implicitDefEqProofs only [go_sem, simprocAttr, -Int.reducePow, DD, List.take_succ_cons, List.drop_succ_cons]
      refine callK_q annuluslaw8_fewCplx.call (f2) rfl rfl ?_
      simp -implicitDefEqProofs only [go_sem, simprocAttr, -Int.reducePow, DD, List.take_succ_cons, List.drop_succ_cons]
  · rw [decide_eq_false q1] at f1
    simp -implicitDefEqProofs only [go_sem, simprocAttr, -Int.reducePow, Tryd.f5, DD, List.take_succ_cons, List.drop_succ_cons]
    refine callK_q annuluslaw8_known.call (k0) rfl rfl ?_
    simp -implicitDefEqProofs only [go_sem, simprocAttr, -Int.reducePow, DD, List.take_succ_cons, List.drop_succ_cons]
    refine callK_q annuluslaw8_fewCplx.call (f1) rfl rfl ?_
    simp -implicitDefEqProofs only [go_sem, simprocAttr, -Int.reducePow, DD, List.take_succ_cons, List.drop_succ_cons]
end Go.Ab

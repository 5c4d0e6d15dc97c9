/- Contracts of this seat's functions (of each call: what it answers), walked over the abstract machine, and the laws of numbers that they want. Conditions: those that each theorem states. -/
import Derived.Test.YtikhbokeaikcpaaGreatDoorFL4
import Derived.Test.YtikhbokeaikcpaaGreatDoorDS
set_option linter.unusedVariables false
set_option maxRecDepth 20000
set_option linter.unusedSimpArgs false
set_option linter.unusedSectionVars false
namespace Go.Ab
open Go.Proofs
open Cx (zero one)
attribute [-go_sem] appF newsF
variable {a b : AV} {x y r s t : Dyadic} {z w c d e : Cx} {B C n m : Nat}
/-! points: what is known of them -/
theorem k8_fr15 : Sat CT false 129 [F64 4609434218613702656] (.tup [F64 4604930618986332160, I64 1]) :=
  frexp_s (b' := 4609434218613702656) (b1 := 4609434218613702656) (m1 := 2251799813685248) (r := 4604930618986332160) (E := 1023) (ne := 0) (by decide) (by decide) (by decide) (by decide) (norm_s (b' := 4609434218613702656) (by decide) (by decide)) (by decide) (by decide) (by decide) (by decide) (by decide)
theorem k8_ld15 : Sat CT false 131 [F64 4604930618986332160, I64 53] (F64 4843621399236968448) :=
  ldexp_s (b' := 4604930618986332160) (b1 := 4604930618986332160) (E := 1022) (ne := 0) (X := 52) (m1 := 2251799813685248) (r := 4843621399236968448) (by decide) (by decide) (by decide) (by decide) (by decide) (norm_s (b' := 4604930618986332160) (by decide) (by decide)) (by decide) (by decide) (by decide) (by decide) (by decide) (by decide) (by decide) (by decide) (by decide) (by decide) (by decide)
theorem k8_ex15 : Sat CT false 97 [F64 4609434218613702656] (.tup [DI (dv 6755399441055744 (-52)), Bo true]) :=
  gexact_s (b' := 4609434218613702656) (fe := 1) (by decide) (by decide) (by decide) k8_fr15 k8_ld15 (by decide) (by decide) (by decide)
theorem k8_fr2 : Sat CT false 129 [F64 13835058055282163712] (.tup [F64 13826050856027422720, I64 2]) :=
  frexp_s (b' := 4611686018427387904) (b1 := 13835058055282163712) (m1 := 9223372036854775808) (r := 13826050856027422720) (E := 1024) (ne := 0) (by decide) (by decide) (by decide) (by decide) (norm_s (b' := 4611686018427387904) (by decide) (by decide)) (by decide) (by decide) (by decide) (by decide) (by decide)
theorem k8_ld2 : Sat CT false 131 [F64 13826050856027422720, I64 53] (F64 14064741636278059008) :=
  ldexp_s (b' := 4602678819172646912) (b1 := 13826050856027422720) (E := 1022) (ne := 0) (X := 52) (m1 := 9223372036854775808) (r := 14064741636278059008) (by decide) (by decide) (by decide) (by decide) (by decide) (norm_s (b' := 4602678819172646912) (by decide) (by decide)) (by decide) (by decide) (by decide) (by decide) (by decide) (by decide) (by decide) (by decide) (by decide) (by decide) (by decide)
theorem k8_ex2 : Sat CT false 97 [F64 13835058055282163712] (.tup [DI (dv (-4503599627370496) (-51)), Bo true]) :=
  gexact_s (b' := 4611686018427387904) (fe := 2) (by decide) (by decide) (by decide) k8_fr2 k8_ld2 (by decide) (by decide) (by decide)
theorem k8_exi : Sat CT false 97 [F64 9218868437227405312] (.tup [.agg [Bo false, .v (.slice none 0 0), I64 0], Bo false]) := gexact_i (b' := 9218868437227405312) (by decide) (by decide)
theorem k8_ex0 : Sat CT false 97 [F64 0] (.tup [DI (dv 0 (-53)), Bo true]) :=
  gexact_s (b' := 0) (fe := 0) (by decide) (by decide) (by decide) (frexp_0 (by decide)) (ldexp_0 53 (by decide)) (by decide) (by decide) (by decide)
theorem k8_ld3 : Sat CT false 131 [F64 4613937818241073152, I64 (-1)] (F64 4609434218613702656) :=
  ldexp_s (b' := 4613937818241073152) (b1 := 4613937818241073152) (E := 1024) (ne := 0) (X := 0) (m1 := 2251799813685248) (r := 4609434218613702656) (by decide) (by decide) (by decide) (by decide) (by decide) (norm_s (b' := 4613937818241073152) (by decide) (by decide)) (by decide) (by decide) (by decide) (by decide) (by decide) (by decide) (by decide) (by decide) (by decide) (by decide) (by decide)
theorem k8_ld1 : Sat CT false 131 [F64 13830554455654793216, I64 1] (F64 13835058055282163712) :=
  ldexp_s (b' := 4607182418800017408) (b1 := 13830554455654793216) (E := 1023) (ne := 0) (X := 1) (m1 := 9223372036854775808) (r := 13835058055282163712) (by decide) (by decide) (by decide) (by decide) (by decide) (norm_s (b' := 4607182418800017408) (by decide) (by decide)) (by decide) (by decide) (by decide) (by decide) (by decide) (by decide) (by decide) (by decide) (by decide) (by decide) (by decide)
theorem k8_x : dv 6755399441055744 (-52) = dv 3 (-1) := dv_shift 3 (-52) 51
theorem k8_y : dv (-4503599627370496) (-51) = dv (-1) 1 := dv_shift (-1) (-51) 52
theorem k8_dx : dnum (dv 3 (-1)) = 3 ∧ dexp (dv 3 (-1)) = -1 := by decide
theorem k8_dy : dnum (dv (-1) 1) = -1 ∧ dexp (dv (-1) 1) = 1 := by decide
theorem k8_Fl : Sat CT false 65 [CI ⟨dv 3 (-1), dv (-1) 1⟩] (.v (.complex .f64 4609434218613702656 13835058055282163712)) := by
  refine gFloat_s (gfloat_s ?_ ?_ ?_) (gfloat_s ?_ ?_ ?_)
  · show bl (dnum (dv 3 (-1))).natAbs ≤ 53; rw [k8_dx.1]; decide
  · show -5000 ≤ dexp (dv 3 (-1)) ∧ dexp (dv 3 (-1)) ≤ 5000; rw [k8_dx.2]; decide
  · show Sat CT false _ [F64 (floatOfInt .f64 (dnum (dv 3 (-1)))), I64 (dexp (dv 3 (-1)))] _; rw [k8_dx.1, k8_dx.2]; exact k8_ld3
  · show bl (dnum (dv (-1) 1)).natAbs ≤ 53; rw [k8_dy.1]; decide
  · show -5000 ≤ dexp (dv (-1) 1) ∧ dexp (dv (-1) 1) ≤ 5000; rw [k8_dy.2]; decide
  · show Sat CT false _ [F64 (floatOfInt .f64 (dnum (dv (-1) 1))), I64 (dexp (dv (-1) 1))] _; rw [k8_dy.1, k8_dy.2]; exact k8_ld1
theorem k8_nrm : nrm ⟨dv 3 (-1), dv (-1) 1⟩ = dv 25 0 * dv 1 (-2) := by
  show dv 3 (-1) * dv 3 (-1) + dv (-1) 1 * dv (-1) 1 = _
  have e1 : dv (-1) 1 * dv (-1) 1 = dv 16 (-2) := by
    rw [dv_mul, show ((-1 : Int) * (-1)) = 1 from rfl, show ((1 : Int) + 1) = -2 + ((4 : Nat) : Int) from rfl, ← dv_shift]; rfl
  have e2 : dv 3 (-1) * dv 3 (-1) = dv 9 (-2) := by rw [dv_mul]; rfl
  have e3 : dv 25 0 * dv 1 (-2) = dv 25 (-2) := by rw [dv_mul]; rfl
  rw [e1, e2, e3, dv_add]; rfl
theorem k8_pow : zpw (zI 0 1) 4 = zI 1 0 := by
  show zI 1 0 * zI 0 1 * zI 0 1 * zI 0 1 * zI 0 1 = _
  rw [zI_mul, zI_mul, zI_mul, zI_mul]; rfl
theorem db1 {v e : Int} (h : v.natAbs < 2 ^ 64) (h1 : -64 ≤ e) (h2 : e ≤ 64) : DB (dv v e) 200 := DB.raw (L := 64) (E := 64) h (by omega) (by decide)
set_option maxHeartbeats 4000000 in
theorem known8_s : Sat CT false 7 [] (Bo true) := by
  refine sat_of annuluslaw8_known.ok (by simp) ?_
  have DD := annuluslaw8_known.dr
  simp only [drP, drPx, drPt, drR, drS, drT, bodyOf, Tryz.f7, Nat.reduceEqDiff, reduceIte, true_and, and_true] at DD
  have o1 : Sat CT false 14 [I64 0, I64 1] (CI (zI 0 1)) := gof_sat 0 1 (by decide) (by decide) (by decide) (by decide)
  have o2 : Sat CT false 14 [I64 1, I64 0] (CI (zI 1 0)) := gof_sat 1 0 (by decide) (by decide) (by decide) (by decide)
  have x1 := gExact_s k8_ex15 k8_ex2
  rw [k8_x, k8_y] at x1
  have i1 := inf_s 1 (by decide)
  have x2 := gExact_n k8_exi k8_ex0
  have cI : CB (zI 0 1) 64 := zI_db1 (by decide) (by decide)
  have c1 : CB (zI 1 0) 64 := zI_db1 (by decide) (by decide)
  have cE : CB ⟨dv 3 (-1), dv (-1) 1⟩ 200 := ⟨db1 (v := 3) (e := -1) (by decide) (by decide) (by decide), db1 (v := -1) (e := 1) (by decide) (by decide) (by decide)⟩
  have m1 := gmul_r (RC_C cI) (RC_C cI) (by decide)
  rw [zI_mul, show zI (0 * 0 - 1 * 1) (0 * 1 + 1 * 0) = zI (-1) 0 from rfl] at m1
  have r1 : Sat CT false 15 [I64 (-1), I64 0] (CI (zI (-1) 0)) := rof8_sat (-1) 0 (by decide) (by decide) (by decide) (by decide)
  have e1 := requal8 (zI_db1 (a := -1) (b := 0) (by decide) (by decide)) (by decide)
  have n1 := gnorm_r (RC_C cE) (by decide)
  rw [k8_nrm] at n1
  have r2 := rof4_sat 25 (by decide) (by decide)
  have r3 := rscale4_k (db1 (v := 25) (e := 0) (by decide) (by decide) (by decide)) (-2) (by decide) (by decide)
  have bN : DB (dv 25 0 * dv 1 (-2)) 400 := (db1 (v := 25) (e := 0) (by decide) (by decide) (by decide)).mul (db1 (v := 1) (e := -2) (by decide) (by decide) (by decide))
  have e2 := requal4d bN bN (by decide) (by decide)
  rw [decide_eq_true rfl] at e2
  have f1 := k8_Fl
  have g1 := gneg_r (RC_C cI) (by decide)
  have g2 := gadd_r (RC_C cI) (RC_C cI.neg) (by decide) (by decide)
  have g3 := gzero_r (RC_C (CB.add' cI cI.neg)) (by decide)
  rw [show zI 0 1 + -(zI 0 1) = zero from Cx.ext' (by show dv 0 0 + -(dv 0 0) = 0; grind) (by show dv 1 0 + -(dv 1 0) = 0; grind)] at g2 g3
  rw [decide_eq_true rfl] at g3
  have w1 := gpow_r (RC_C cI) (by decide) 4 (by decide)
  rw [show (4 : Int).toNat = 4 from rfl, k8_pow] at w1
  have s1 := gsame_r (RC_C c1) (RC_C c1) (by decide) (by decide)
  rw [decide_eq_true rfl] at s1
  have q1 : (FloatKind.f64.format.order 4609434218613702656 4609434218613702656 == some .eq) = true := by decide
  have q2 : (FloatKind.f64.format.order 13835058055282163712 13835058055282163712 == some .eq) = true := by decide
  simp -implicitDefEqProofs only [go_sem, simprocAttr, -Int.reducePow, Tryz.f7, DD]
  refine callK_q gauss_Of.call (o1) rfl rfl ?_
  simp -implicitDefEqProofs only [go_sem, simprocAttr, -Int.reducePow, DD]
  refine callK_q gauss_Exact.call (x1) rfl rfl ?_
  simp -implicitDefEqProofs only [go_sem, simprocAttr, -Int.reducePow, DD]
  refine callK_q math_Inf.call (i1) rfl rfl ?_
  simp -implicitDefEqProofs only [go_sem, simprocAttr, -Int.reducePow, DD]
  refine callK_q gauss_Exact.call (x2) rfl rfl ?_
  simp -implicitDefEqProofs only [go_sem, simprocAttr, -Int.reducePow, DD]
  refine callK_q gauss_Mul.call (m1) rfl rfl ?_
  simp -implicitDefEqProofs only [go_sem, simprocAttr, -Int.reducePow, DD]
  refine callK_q annulusref8_Of.call (r1) rfl rfl ?_
  simp -implicitDefEqProofs only [go_sem, simprocAttr, -Int.reducePow, DD]
  refine callK_q annulusref8_Equal.call (e1) rfl rfl ?_
  simp -implicitDefEqProofs only [go_sem, simprocAttr, -Int.reducePow, DD]
  refine callK_q gauss_Norm.call (n1) rfl rfl ?_
  simp -implicitDefEqProofs only [go_sem, simprocAttr, -Int.reducePow, DD]
  refine callK_q annulusref4_Of.call (r2) rfl rfl ?_
  simp -implicitDefEqProofs only [go_sem, simprocAttr, -Int.reducePow, DD]
  refine callK_q annulusref4_Scale.call (r3) rfl rfl ?_
  simp -implicitDefEqProofs only [go_sem, simprocAttr, -Int.reducePow, DD]
  refine callK_q annulusref4_Equal.call (e2) rfl rfl ?_
  simp -implicitDefEqProofs only [go_sem, simprocAttr, -Int.reducePow, DD]
  refine callK_q gauss_Float.call (f1) rfl rfl ?_
  simp -implicitDefEqProofs only [go_sem, simprocAttr, -Int.reducePow, DD, q1, q2]
  refine callK_q gauss_Neg.call (g1) rfl rfl ?_
  simp -implicitDefEqProofs only [go_sem, simprocAttr, -Int.reducePow, DD]
  refine callK_q gauss_Add.call (g2) rfl rfl ?_
  simp -implicitDefEqProofs only [go_sem, simprocAttr, -Int.reducePow, DD]
  refine callK_q gauss_Zero.call (g3) rfl rfl ?_
  simp -implicitDefEqProofs only [go_sem, simprocAttr, -Int.reducePow, DD]
  refine callK_q gauss_Pow.call (w1) rfl rfl ?_
  simp -implicitDefEqProofs only [go_sem, simprocAttr, -Int.reducePow, DD]
  refine callK_q gauss_Of.call (o2) rfl rfl ?_
  simp -implicitDefEqProofs only [go_sem, simprocAttr, -Int.reducePow, DD]
  refine callK_q gauss_Same.call (s1) rfl rfl ?_
  simp -implicitDefEqProofs only [go_sem, simprocAttr, -Int.reducePow, DD]
end Go.Ab

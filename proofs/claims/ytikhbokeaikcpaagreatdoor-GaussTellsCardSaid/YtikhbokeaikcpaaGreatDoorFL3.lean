/- Contracts of this seat's functions (of each call: what it answers), walked over the abstract machine, and the laws of numbers that they want. Conditions: those that each theorem states. -/
import Derived.Test.YtikhbokeaikcpaaGreatDoorFL2
import Derived.Test.YtikhbokeaikcpaaGreatDoorRR
set_option linter.unusedVariables false
set_option maxRecDepth 20000
set_option linter.unusedSimpArgs false
set_option linter.unusedSectionVars false
namespace Go.Ab
open Go.Proofs
open Cx (zero one)
attribute [-go_sem] appF newsF
variable {a b : AV} {x y r s t : Dyadic} {z w c d e : Cx} {B C n m : Nat}
/-! floats and points -/
theorem dmake_s (q e : Int) (hq : Lt2 q.natAbs 100000) (hl : Lz q < 1099511000) (he : -20000 ≤ e ∧ e ≤ 20000) : Sat CT false 130 [WI q, I64 e] (DI (dv q e)) := by
  refine sat_of dyad_Make.ok (by simp) ?_
  have DD := dyad_Make.dr
  simp only [drP, drPx, drPt, drR, drS, drT, bodyOf, Tryz.f130, Nat.reduceEqDiff, reduceIte, true_and, and_true] at DD
  have h1 := dheld_sat e (by omega)
  have h2 := raw_W q e hq hl (by omega)
  simp -implicitDefEqProofs only [go_sem, simprocAttr, -Int.reducePow, Tryz.f130, DD, x_app, x_ga0, x_gas, x_gan, Int.cast_ofNat_Int, eq_self, Int.zero_lt_one, Bool.not_false, Bool.not_true, beq_self_eq_true, WI, IA, DI, DA, CI]
  refine callK_q dyad_held.call (h1) rfl rfl ?_
  simp -implicitDefEqProofs only [go_sem, simprocAttr, -Int.reducePow, DD, x_app, x_ga0, x_gas, x_gan, Int.cast_ofNat_Int, eq_self, Int.zero_lt_one, Bool.not_false, Bool.not_true, beq_self_eq_true, WI, IA, DI, DA, CI]
  refine callK_q dyad_Raw.call (h2) rfl rfl ?_
  simp -implicitDefEqProofs only [go_sem, simprocAttr, -Int.reducePow, DD, x_app, x_ga0, x_gas, x_gan, Int.cast_ofNat_Int, eq_self, Int.zero_lt_one, Bool.not_false, Bool.not_true, beq_self_eq_true, WI, IA, DI, DA, CI]
theorem Lz_64 {v : Int} (h : v.natAbs < 2 ^ 64) : Lt2 v.natAbs 100000 ∧ Lz v < 1099511000 := by
  refine ⟨Lt2.mono (show Lt2 v.natAbs 64 from h) (by decide), ?_⟩
  have : Lz v ≤ 2 := lim_length_le (Nat.lt_of_lt_of_le h (by decide))
  omega
theorem gexact_s {b b' fr l : Nat} {fe v : Int} (h : bits .andNot .u64 (b : Int) 9223372036854775808 = (b' : Int)) (hi : fInf b' = false) (hn : fNaN b = false) (hF : Sat CT false 129 [F64 b] (.tup [F64 fr, I64 fe])) (hL : Sat CT false 131 [F64 fr, I64 53] (F64 l)) (hv : floatToIntVal .f64 l .i64 = some v)
    (hvb : -9223372036854775808 ≤ v ∧ v ≤ 9223372036854775807) (hfe : -19000 ≤ fe ∧ fe ≤ 19000) : Sat CT false 97 [F64 b] (.tup [DI (dv v (fe - 53)), Bo true]) := by
  refine sat_of gauss_exact.ok (by simp) ?_
  have DD := gauss_exact.dr
  simp only [drP, drPx, drPt, drR, drS, drT, bodyOf, Tryz.f97, Nat.reduceEqDiff, reduceIte, true_and, and_true] at DD
  have a1 := isinf_s h
  have a2 := isnan_s b
  rw [hi] at a1
  rw [hn] at a2
  obtain ⟨b1, b2⟩ := Lz_64 (v := v) (by omega)
  have o1 := wof_sat v hvb.1 hvb.2
  have m1 := dmake_s v (fe - 53) b1 b2 (by omega)
  have w1 : IntKind.i64.wrap (fe - 53) = fe - 53 := wrap_i64 (by omega) (by omega)
  simp -implicitDefEqProofs only [go_sem, simprocAttr, -Int.reducePow, Tryz.f97, DD, x_app, x_ga0, x_gas, x_gan, Int.cast_ofNat_Int, eq_self, Int.zero_lt_one, Bool.not_false, Bool.not_true, beq_self_eq_true, WI, IA, DI, DA, CI]
  refine callK_q math_IsInf.call (a1) rfl rfl ?_
  simp -implicitDefEqProofs only [go_sem, simprocAttr, -Int.reducePow, DD, x_app, x_ga0, x_gas, x_gan, Int.cast_ofNat_Int, eq_self, Int.zero_lt_one, Bool.not_false, Bool.not_true, beq_self_eq_true, WI, IA, DI, DA, CI]
  refine callK_q math_IsNaN.call (a2) rfl rfl ?_
  simp -implicitDefEqProofs only [go_sem, simprocAttr, -Int.reducePow, DD, x_app, x_ga0, x_gas, x_gan, Int.cast_ofNat_Int, eq_self, Int.zero_lt_one, Bool.not_false, Bool.not_true, beq_self_eq_true, WI, IA, DI, DA, CI]
  refine callK_q math_Frexp.call (hF) rfl rfl ?_
  simp -implicitDefEqProofs only [go_sem, simprocAttr, -Int.reducePow, DD, x_app, x_ga0, x_gas, x_gan, Int.cast_ofNat_Int, eq_self, Int.zero_lt_one, Bool.not_false, Bool.not_true, beq_self_eq_true, WI, IA, DI, DA, CI]
  refine callK_q math_Ldexp.call (hL) rfl rfl ?_
  simp -implicitDefEqProofs only [go_sem, simprocAttr, -Int.reducePow, DD, x_app, x_ga0, x_gas, x_gan, Int.cast_ofNat_Int, eq_self, Int.zero_lt_one, Bool.not_false, Bool.not_true, beq_self_eq_true, WI, IA, DI, DA, CI, hv, w1]
  refine callK_q whole_Of.call (o1) rfl rfl ?_
  simp -implicitDefEqProofs only [go_sem, simprocAttr, -Int.reducePow, DD, x_app, x_ga0, x_gas, x_gan, Int.cast_ofNat_Int, eq_self, Int.zero_lt_one, Bool.not_false, Bool.not_true, beq_self_eq_true, WI, IA, DI, DA, CI, hv, w1]
  refine callK_q dyad_Make.call (m1) rfl rfl ?_
  simp -implicitDefEqProofs only [go_sem, simprocAttr, -Int.reducePow, DD, x_app, x_ga0, x_gas, x_gan, Int.cast_ofNat_Int, eq_self, Int.zero_lt_one, Bool.not_false, Bool.not_true, beq_self_eq_true, WI, IA, DI, DA, CI]
theorem gexact_i {b b' : Nat} (h : bits .andNot .u64 (b : Int) 9223372036854775808 = (b' : Int)) (hi : fInf b' = true) : Sat CT false 97 [F64 b] (.tup [.agg [Bo false, .v (.slice none 0 0), I64 0], Bo false]) := by
  refine sat_of gauss_exact.ok (by simp) ?_
  have DD := gauss_exact.dr
  simp only [drP, drPx, drPt, drR, drS, drT, bodyOf, Tryz.f97, Nat.reduceEqDiff, reduceIte, true_and, and_true] at DD
  have a1 := isinf_s h
  rw [hi] at a1
  simp -implicitDefEqProofs only [go_sem, simprocAttr, -Int.reducePow, Tryz.f97, DD, x_app, x_ga0, x_gas, x_gan, Int.cast_ofNat_Int, eq_self, Int.zero_lt_one, Bool.not_false, Bool.not_true, beq_self_eq_true, WI, IA, DI, DA, CI]
  refine callK_q math_IsInf.call (a1) rfl rfl ?_
  simp -implicitDefEqProofs only [go_sem, simprocAttr, -Int.reducePow, DD, x_app, x_ga0, x_gas, x_gan, Int.cast_ofNat_Int, eq_self, Int.zero_lt_one, Bool.not_false, Bool.not_true, beq_self_eq_true, WI, IA, DI, DA, CI]
theorem gExact_s {b1 b2 : Nat} (h1 : Sat CT false 97 [F64 b1] (.tup [DI x, Bo true])) (h2 : Sat CT false 97 [F64 b2] (.tup [DI y, Bo true])) : Sat CT false 62 [.v (.complex .f64 b1 b2)] (.tup [CI ⟨x, y⟩, Bo true]) := by
  refine sat_of gauss_Exact.ok (by simp) ?_
  have DD := gauss_Exact.dr
  simp only [drP, drPx, drPt, drR, drS, drT, bodyOf, Tryz.f62, Nat.reduceEqDiff, reduceIte, true_and, and_true] at DD
  simp -implicitDefEqProofs only [go_sem, simprocAttr, -Int.reducePow, Tryz.f62, DD, x_app, x_ga0, x_gas, x_gan, Int.cast_ofNat_Int, eq_self, Int.zero_lt_one, Bool.not_false, Bool.not_true, beq_self_eq_true, WI, IA, DI, DA, CI]
  refine callK_q gauss_exact.call (h1) rfl rfl ?_
  simp -implicitDefEqProofs only [go_sem, simprocAttr, -Int.reducePow, DD, x_app, x_ga0, x_gas, x_gan, Int.cast_ofNat_Int, eq_self, Int.zero_lt_one, Bool.not_false, Bool.not_true, beq_self_eq_true, WI, IA, DI, DA, CI]
  refine callK_q gauss_exact.call (h2) rfl rfl ?_
  simp -implicitDefEqProofs only [go_sem, simprocAttr, -Int.reducePow, DD, x_app, x_ga0, x_gas, x_gan, Int.cast_ofNat_Int, eq_self, Int.zero_lt_one, Bool.not_false, Bool.not_true, beq_self_eq_true, WI, IA, DI, DA, CI]
theorem gExact_n {b1 b2 : Nat} (h1 : Sat CT false 97 [F64 b1] (.tup [.agg [Bo false, .v (.slice none 0 0), I64 0], Bo false])) (h2 : Sat CT false 97 [F64 b2] (.tup [DI y, Bo true])) : Sat CT false 62 [.v (.complex .f64 b1 b2)] (.tup [.agg [Bo false, .v (.slice none 0 0), I64 0, Bo false, .v (.slice none 0 0), I64 0], Bo false]) := by
  refine sat_of gauss_Exact.ok (by simp) ?_
  have DD := gauss_Exact.dr
  simp only [drP, drPx, drPt, drR, drS, drT, bodyOf, Tryz.f62, Nat.reduceEqDiff, reduceIte, true_and, and_true] at DD
  simp -implicitDefEqProofs only [go_sem, simprocAttr, -Int.reducePow, Tryz.f62, DD, x_app, x_ga0, x_gas, x_gan, Int.cast_ofNat_Int, eq_self, Int.zero_lt_one, Bool.not_false, Bool.not_true, beq_self_eq_true, WI, IA, DI, DA, CI]
  refine callK_q gauss_exact.call (h1) rfl rfl ?_
  simp -implicitDefEqProofs only [go_sem, simprocAttr, -Int.reducePow, DD, x_app, x_ga0, x_gas, x_gan, Int.cast_ofNat_Int, eq_self, Int.zero_lt_one, Bool.not_false, Bool.not_true, beq_self_eq_true, WI, IA, DI, DA, CI]
  refine callK_q gauss_exact.call (h2) rfl rfl ?_
  simp -implicitDefEqProofs only [go_sem, simprocAttr, -Int.reducePow, DD, x_app, x_ga0, x_gas, x_gan, Int.cast_ofNat_Int, eq_self, Int.zero_lt_one, Bool.not_false, Bool.not_true, beq_self_eq_true, WI, IA, DI, DA, CI]
theorem gfloat_s {r : Nat} (hm : bl (dnum x).natAbs ≤ 53) (he : -5000 ≤ dexp x ∧ dexp x ≤ 5000) (hL : Sat CT false 131 [F64 (floatOfInt .f64 (dnum x)), I64 (dexp x)] (F64 r)) : Sat CT false 100 [DI x] (F64 r) := by
  refine sat_of gauss_float.ok (by simp) ?_
  have DD := gauss_float.dr
  simp only [drP, drPx, drPt, drR, drS, drT, bodyOf, Tryz.f100, Nat.reduceEqDiff, reduceIte, true_and, and_true] at DD
  have hlt : (dnum x).natAbs < 2 ^ 53 := Nat.lt_of_lt_of_le (bl_lt _) (Nat.pow_le_pow_right (by decide) hm)
  obtain ⟨b1, b2⟩ := Lz_64 (v := dnum x) (Nat.lt_trans hlt (by decide))
  have m1 := dmake_s (dnum x) (dexp x) b1 b2 (by omega)
  rw [dv_of] at m1
  have n1 := bits_sat (lim (dnum x).natAbs) (Lm_lim _) (by have : (lim (dnum x).natAbs).length = Lz (dnum x) := rfl; omega)
  rw [nv_lim] at n1
  have s1 := shr_r (RI_W (z := dnum x) (Nat.le_refl _)) 0 (Nat.le_of_lt b2)
  rw [show fq (dnum x) (2 ^ shN 0) = dnum x by rw [show shN 0 = 0 from rfl]; unfold fq; simp] at s1
  have s2 := small_y (RI_W (z := dnum x) (Nat.le_refl _)) (Nat.le_of_lt b2) (by omega) (by omega)
  have w1 : IntKind.i64.wrap ((bl (dnum x).natAbs : Int) - 53) = (bl (dnum x).natAbs : Int) - 53 := wrap_i64 (by omega) (by omega)
  have w2 : max ((bl (dnum x).natAbs : Int) - 53) 0 = 0 := by omega
  have w3 : IntKind.i64.wrap (dexp x + 0) = dexp x := by rw [wrap_i64 (by omega) (by omega)]; omega
  have w3' : IntKind.i64.wrap (dexp x) = dexp x := wrap_i64 (by omega) (by omega)
  have w4 : min (max (dexp x) (-5000)) 5000 = dexp x := by omega
  simp -implicitDefEqProofs only [go_sem, simprocAttr, -Int.reducePow, Tryz.f100, DD, x_app, x_ga0, x_gas, x_gan, Int.cast_ofNat_Int, eq_self, Int.zero_lt_one, Bool.not_false, Bool.not_true, beq_self_eq_true, WI, IA, DI, DA, CI]
  refine callK_q dyad_Make.call (m1) rfl rfl ?_
  simp -implicitDefEqProofs only [go_sem, simprocAttr, -Int.reducePow, DD, x_app, x_ga0, x_gas, x_gan, Int.cast_ofNat_Int, eq_self, Int.zero_lt_one, Bool.not_false, Bool.not_true, beq_self_eq_true, WI, IA, DI, DA, CI]
  refine callK_q nat_Bits.call (n1) rfl rfl ?_
  simp -implicitDefEqProofs only [go_sem, simprocAttr, -Int.reducePow, DD, x_app, x_ga0, x_gas, x_gan, Int.cast_ofNat_Int, eq_self, Int.zero_lt_one, Bool.not_false, Bool.not_true, beq_self_eq_true, WI, IA, DI, DA, CI, w1, w2]
  refine callK_q whole_Shr.call (s1) rfl rfl ?_
  simp -implicitDefEqProofs only [go_sem, simprocAttr, -Int.reducePow, DD, x_app, x_ga0, x_gas, x_gan, Int.cast_ofNat_Int, eq_self, Int.zero_lt_one, Bool.not_false, Bool.not_true, beq_self_eq_true, WI, IA, DI, DA, CI]
  refine callK_q whole_Small.call (s2) rfl rfl ?_
  simp -implicitDefEqProofs only [go_sem, simprocAttr, -Int.reducePow, DD, x_app, x_ga0, x_gas, x_gan, Int.cast_ofNat_Int, eq_self, Int.zero_lt_one, Bool.not_false, Bool.not_true, beq_self_eq_true, WI, IA, DI, DA, CI, Int.add_zero, w3, w3', w4]
  refine callK_q math_Ldexp.call (hL) rfl rfl ?_
  simp -implicitDefEqProofs only [go_sem, simprocAttr, -Int.reducePow, DD, x_app, x_ga0, x_gas, x_gan, Int.cast_ofNat_Int, eq_self, Int.zero_lt_one, Bool.not_false, Bool.not_true, beq_self_eq_true, WI, IA, DI, DA, CI]
theorem gFloat_s {r1 r2 : Nat} (h1 : Sat CT false 100 [DI z.re] (F64 r1)) (h2 : Sat CT false 100 [DI z.im] (F64 r2)) : Sat CT false 65 [CI z] (.v (.complex .f64 r1 r2)) := by
  refine sat_of gauss_Float.ok (by simp) ?_
  have DD := gauss_Float.dr
  simp only [drP, drPx, drPt, drR, drS, drT, bodyOf, Tryz.f65, Nat.reduceEqDiff, reduceIte, true_and, and_true] at DD
  simp -implicitDefEqProofs only [go_sem, simprocAttr, -Int.reducePow, Tryz.f65, DD, x_app, x_ga0, x_gas, x_gan, Int.cast_ofNat_Int, eq_self, Int.zero_lt_one, Bool.not_false, Bool.not_true, beq_self_eq_true, WI, IA, DI, DA, CI]
  refine callK_q gauss_float.call (h1) rfl rfl ?_
  simp -implicitDefEqProofs only [go_sem, simprocAttr, -Int.reducePow, DD, x_app, x_ga0, x_gas, x_gan, Int.cast_ofNat_Int, eq_self, Int.zero_lt_one, Bool.not_false, Bool.not_true, beq_self_eq_true, WI, IA, DI, DA, CI]
  refine callK_q gauss_float.call (h2) rfl rfl ?_
  simp -implicitDefEqProofs only [go_sem, simprocAttr, -Int.reducePow, DD, x_app, x_ga0, x_gas, x_gan, Int.cast_ofNat_Int, eq_self, Int.zero_lt_one, Bool.not_false, Bool.not_true, beq_self_eq_true, WI, IA, DI, DA, CI]
end Go.Ab

/- Contracts of this seat's functions (of each call: what it answers), walked over the abstract machine, and the laws of numbers that they want. Conditions: those that each theorem states. -/
import Derived.Test.YtikhbokeaikcpaaGreatDoorD3
set_option linter.unusedVariables false
set_option maxRecDepth 20000
set_option linter.unusedSimpArgs false
namespace Go.Ab
open Go.Proofs

open Cx (zero one)
variable {a b : AV} {x y : Dyadic} {z w : Cx} {B C : Nat}
theorem make_sat (n : Bool) (l : List Nat) (e : Int) (hl : Lm l) (hla : l.length < 1099511000) (hk : Lt2 (nv l) 100000) (he : e.natAbs ≤ 20000) : Sat CT false 31 [IA n l, I64 e] (DI (dv (iv n l) e)) := by
  refine sat_of annulusref4_Make.ok (by simp) ?_
  have DD := annulusref4_Make.dr
  simp only [drP, drPx, drPt, drR, drS, drT, bodyOf, Tryz.f31, Nat.reduceEqDiff, reduceIte, true_and, and_true] at DD
  have q1 := rnorm_sat n l hl (by omega)
  by_cases h0 : nv l = 0
  · rw [show iv n l = 0 by unfold iv; rw [h0]; cases n <;> rfl, dv_zero, DI_0]
    rw [WI_z h0] at q1
    simp -implicitDefEqProofs only [go_sem, simprocAttr, -Int.reducePow, Tryz.f31, DD, beq_self_eq_true, Bool.not_false, Bool.not_true, WI, IA, DI, DA]
    refine callK_of false annulusref1_Norm.call (q1) rfl rfl (by simp [ownOK, own1, hd, fzH, fzArgs, fzCells, fz, IA, WI, DI, DA, U32]) (by simp [U32, isD_u32, isD_v, isD_nil, isD_agg, IA, WI, DI, DA]) ?_
    simp -implicitDefEqProofs only [go_sem, simprocAttr, -Int.reducePow, DD, x_app, x_ga0, x_gas, x_gan, Int.cast_ofNat_Int, eq_self, Int.zero_lt_one, Bool.not_false, Bool.not_true, beq_self_eq_true, WI, IA, DI, DA]
    rfl
  · rw [DI_raw h0]
    rw [WI_nz h0] at q1
    have ht := tz_small h0 hk
    have hll := lim_nv_len (L := 1099511000) hl (by omega) (Nat.le_refl (nv l))
    have q2 := rlow_sat (lim (nv l)) (Lm_lim _) (by omega)
    rw [nv_lim] at q2
    have q3 := rshr_sat (lim (nv l)) ((tz (nv l) : Nat) : Int) (Lm_lim _) (by omega)
    rw [nv_lim, show shN ((tz (nv l) : Nat) : Int) = tz (nv l) by unfold shN; omega] at q3
    have c1 := lim_nz h0
    have c3 : max (-20000) (min e 20000) = e := by omega
    have c2 : IntKind.i64.wrap (e + ((tz (nv l) : Nat) : Int)) = e + ((tz (nv l) : Nat) : Int) := wrap_id (by omega)
    simp -implicitDefEqProofs only [go_sem, simprocAttr, -Int.reducePow, Tryz.f31, DD, beq_self_eq_true, Bool.not_false, Bool.not_true, WI, IA, DI, DA, c1, c2, c3]
    refine callK_of false annulusref1_Norm.call (q1) rfl rfl (by simp [ownOK, own1, hd, fzH, fzArgs, fzCells, fz, IA, WI, DI, DA, U32]) (by simp [U32, isD_u32, isD_v, isD_nil, isD_agg, IA, WI, DI, DA]) ?_
    simp -implicitDefEqProofs only [go_sem, simprocAttr, -Int.reducePow, DD, x_app, x_ga0, x_gas, x_gan, Int.cast_ofNat_Int, eq_self, Int.zero_lt_one, Bool.not_false, Bool.not_true, beq_self_eq_true, WI, IA, DI, DA, c1, c2, c3]
    refine callK_of false annulusref1_Low.call (q2) rfl rfl (by simp [ownOK, own1, hd, fzH, fzArgs, fzCells, fz, IA, WI, DI, DA, U32]) (by simp [U32, isD_u32, isD_v, isD_nil, isD_agg, IA, WI, DI, DA]) ?_
    simp -implicitDefEqProofs only [go_sem, simprocAttr, -Int.reducePow, DD, x_app, x_ga0, x_gas, x_gan, Int.cast_ofNat_Int, eq_self, Int.zero_lt_one, Bool.not_false, Bool.not_true, beq_self_eq_true, WI, IA, DI, DA, c1, c2, c3]
    refine callK_of false annulusref1_Shr.call (q3) rfl rfl (by simp [ownOK, own1, hd, fzH, fzArgs, fzCells, fz, IA, WI, DI, DA, U32]) (by simp [U32, isD_u32, isD_v, isD_nil, isD_agg, IA, WI, DI, DA]) ?_
    simp -implicitDefEqProofs only [go_sem, simprocAttr, -Int.reducePow, DD, x_app, x_ga0, x_gas, x_gan, Int.cast_ofNat_Int, eq_self, Int.zero_lt_one, Bool.not_false, Bool.not_true, beq_self_eq_true, WI, IA, DI, DA, c1, c2, c3]
theorem rof4_sat (v : Int) (h1 : -9223372036854775808 ≤ v) (h2 : v ≤ 9223372036854775807) : Sat CT false 64 [I64 v] (DI (dv v 0)) := by
  refine sat_of annulusref4_Of.ok (by simp) ?_
  have DD := annulusref4_Of.dr
  simp only [drP, drPx, drPt, drR, drS, drT, bodyOf, Tryz.f64, Nat.reduceEqDiff, reduceIte, true_and, and_true] at DD
  have pz : Lt2 v.natAbs 64 := by unfold Lt2; omega
  have lz := len_pow2 pz
  have q1 := rof_sat v h1 h2
  have q2 := make_sat (decide (v < 0)) (lim v.natAbs) 0 (Lm_lim _) (by omega) (by rw [nv_lim]; exact pow2_lt pz (by omega)) (by decide)
  rw [iv_W] at q2
  simp -implicitDefEqProofs only [go_sem, simprocAttr, -Int.reducePow, Tryz.f64, DD, beq_self_eq_true, Bool.not_false, Bool.not_true, WI, IA, DI, DA]
  refine callK_of false annulusref1_Of.call (q1) rfl rfl (by simp [ownOK, own1, hd, fzH, fzArgs, fzCells, fz, IA, WI, DI, DA, U32]) (by simp [U32, isD_u32, isD_v, isD_nil, isD_agg, IA, WI, DI, DA]) ?_
  simp -implicitDefEqProofs only [go_sem, simprocAttr, -Int.reducePow, DD, x_app, x_ga0, x_gas, x_gan, Int.cast_ofNat_Int, eq_self, Int.zero_lt_one, Bool.not_false, Bool.not_true, beq_self_eq_true, WI, IA, DI, DA]
  refine callK_of false annulusref4_Make.call (q2) rfl rfl (by simp [ownOK, own1, hd, fzH, fzArgs, fzCells, fz, IA, WI, DI, DA, U32]) (by simp [U32, isD_u32, isD_v, isD_nil, isD_agg, IA, WI, DI, DA]) ?_
  simp -implicitDefEqProofs only [go_sem, simprocAttr, -Int.reducePow, DD, x_app, x_ga0, x_gas, x_gan, Int.cast_ofNat_Int, eq_self, Int.zero_lt_one, Bool.not_false, Bool.not_true, beq_self_eq_true, WI, IA, DI, DA]
theorem rexact_r (ha : RD a x B) (hB : B ≤ 20000) : Sat CT false 66 [a] (DI x) := by
  refine sat_of annulusref4_Exact.ok (by simp) ?_
  have DD := annulusref4_Exact.dr
  simp only [drP, drPx, drPt, drR, drS, drT, bodyOf, Tryz.f66, Nat.reduceEqDiff, reduceIte, true_and, and_true] at DD
  obtain ⟨n, l, e, rfl, hl, rfl, hv, hL, he, hdb⟩ := ha
  have q2 := exact_sat n l e hl (by omega) (pow2_lt hv (by omega)) (by omega)
  simp -implicitDefEqProofs only [go_sem, simprocAttr, -Int.reducePow, Tryz.f66, DD, beq_self_eq_true, Bool.not_false, Bool.not_true, WI, IA, DI, DA]
  refine callK_of false annulusref4_exact.call (q2) rfl rfl (by simp [ownOK, own1, hd, fzH, fzArgs, fzCells, fz, IA, WI, DI, DA, U32]) (by simp [U32, isD_u32, isD_v, isD_nil, isD_agg, IA, WI, DI, DA]) ?_
  simp -implicitDefEqProofs only [go_sem, simprocAttr, -Int.reducePow, DD, x_app, x_ga0, x_gas, x_gan, Int.cast_ofNat_Int, eq_self, Int.zero_lt_one, Bool.not_false, Bool.not_true, beq_self_eq_true, WI, IA, DI, DA]
theorem rneg4 (h : DB x B) (hB : B ≤ 20000) : Sat CT false 11 [DI x] (DI (-x)) := by
  refine sat_of annulusref4_Neg.ok (by simp) ?_
  have DD := annulusref4_Neg.dr
  simp only [drP, drPx, drPt, drR, drS, drT, bodyOf, Tryz.f11, Nat.reduceEqDiff, reduceIte, true_and, and_true] at DD
  have hx1 := h.lim
  have q := rneg_sat (decide (dnum x < 0)) (lim (dnum x).natAbs) (Lm_lim _) (by omega)
  rw [iv_num] at q
  simp -implicitDefEqProofs only [go_sem, simprocAttr, -Int.reducePow, Tryz.f11, DD, beq_self_eq_true, Bool.not_false, Bool.not_true, WI, IA, DI, DA]
  refine callK_of false annulusref1_Neg.call (q) rfl rfl (by simp [ownOK, own1, hd, fzH, fzArgs, fzCells, fz, IA, WI, DI, DA, U32]) (by simp [U32, isD_u32, isD_v, isD_nil, isD_agg, IA, WI, DI, DA]) ?_
  simp -implicitDefEqProofs only [go_sem, simprocAttr, -Int.reducePow, DD, x_app, x_ga0, x_gas, x_gan, Int.cast_ofNat_Int, eq_self, Int.zero_lt_one, Bool.not_false, Bool.not_true, beq_self_eq_true, WI, IA, DI, DA]
  rw [show dnum (-x) = - dnum x by cases x <;> rfl, show dexp (-x) = dexp x by cases x <;> rfl]
theorem rsub4 (hx : DB x B) (hy : DB y C) (hB : B ≤ 20000) (hC : C ≤ 20000) : Sat CT false 73 [DI x, DI y] (DI (x - y)) := by
  refine sat_of annulusref4_Sub.ok (by simp) ?_
  have DD := annulusref4_Sub.dr
  simp only [drP, drPx, drPt, drR, drS, drT, bodyOf, Tryz.f73, Nat.reduceEqDiff, reduceIte, true_and, and_true] at DD
  have q1 := rneg4 hy hC
  have q2 := radd4 hx hy.neg hB hC
  simp -implicitDefEqProofs only [go_sem, simprocAttr, -Int.reducePow, Tryz.f73, DD, beq_self_eq_true, Bool.not_false, Bool.not_true, WI, IA, DI, DA]
  refine callK_of false annulusref4_Neg.call (q1) rfl rfl (by simp [ownOK, own1, hd, fzH, fzArgs, fzCells, fz, IA, WI, DI, DA, U32]) (by simp [U32, isD_u32, isD_v, isD_nil, isD_agg, IA, WI, DI, DA]) ?_
  simp -implicitDefEqProofs only [go_sem, simprocAttr, -Int.reducePow, DD, x_app, x_ga0, x_gas, x_gan, Int.cast_ofNat_Int, eq_self, Int.zero_lt_one, Bool.not_false, Bool.not_true, beq_self_eq_true, WI, IA, DI, DA]
  refine callK_of false annulusref4_Add.call (q2) rfl rfl (by simp [ownOK, own1, hd, fzH, fzArgs, fzCells, fz, IA, WI, DI, DA, U32]) (by simp [U32, isD_u32, isD_v, isD_nil, isD_agg, IA, WI, DI, DA]) ?_
  simp -implicitDefEqProofs only [go_sem, simprocAttr, -Int.reducePow, DD, x_app, x_ga0, x_gas, x_gan, Int.cast_ofNat_Int, eq_self, Int.zero_lt_one, Bool.not_false, Bool.not_true, beq_self_eq_true, WI, IA, DI, DA]
  rfl
theorem requal4 (h : DB x B) (hB : B ≤ 20000) : Sat CT false 25 [DI x, DI x] (Bo true) := by
  refine sat_of annulusref4_Equal.ok (by simp) ?_
  have DD := annulusref4_Equal.dr
  simp only [drP, drPx, drPt, drR, drS, drT, bodyOf, Tryz.f25, Nat.reduceEqDiff, reduceIte, true_and, and_true] at DD
  have hx1 := h.lim
  have q := same_w (x := dnum x) (y := dnum x) rfl (by show (lim (dnum x).natAbs).length < _; omega)
  simp -implicitDefEqProofs only [go_sem, simprocAttr, -Int.reducePow, Tryz.f25, DD, beq_self_eq_true, Bool.not_false, Bool.not_true, WI, IA, DI, DA]
  refine callK_of false annulusref1_SameInt.call (q) rfl rfl (by simp [ownOK, own1, hd, fzH, fzArgs, fzCells, fz, IA, WI, DI, DA, U32]) (by simp [U32, isD_u32, isD_v, isD_nil, isD_agg, IA, WI, DI, DA]) ?_
  simp -implicitDefEqProofs only [go_sem, simprocAttr, -Int.reducePow, DD, x_app, x_ga0, x_gas, x_gan, Int.cast_ofNat_Int, eq_self, Int.zero_lt_one, Bool.not_false, Bool.not_true, beq_self_eq_true, WI, IA, DI, DA]
theorem rcplx_r (ha : RC a z B) (hB : B ≤ 20000) : Sat CT false 10 [a] (CI z) := by
  refine sat_of annulusref8_Cplx.ok (by simp) ?_
  have DD := annulusref8_Cplx.dr
  simp only [drP, drPx, drPt, drR, drS, drT, bodyOf, Tryz.f10, Nat.reduceEqDiff, reduceIte, true_and, and_true] at DD
  obtain ⟨n, l, e, m, k, f, rfl, hr, hi⟩ := ha
  have q1 := rexact_r hr hB
  have q2 := rexact_r hi hB
  simp -implicitDefEqProofs only [go_sem, simprocAttr, -Int.reducePow, Tryz.f10, DD, beq_self_eq_true, Bool.not_false, Bool.not_true, WI, IA, DI, DA, CI]
  refine callK_of false annulusref4_Exact.call (q1) rfl rfl (by simp [ownOK, own1, hd, fzH, fzArgs, fzCells, fz, IA, WI, DI, DA, CI, U32]) (by simp [U32, isD_u32, isD_v, isD_nil, isD_agg, IA, WI, DI, DA, CI]) ?_
  simp -implicitDefEqProofs only [go_sem, simprocAttr, -Int.reducePow, DD, x_app, x_ga0, x_gas, x_gan, Int.cast_ofNat_Int, eq_self, Int.zero_lt_one, Bool.not_false, Bool.not_true, beq_self_eq_true, WI, IA, DI, DA, CI]
  refine callK_of false annulusref4_Exact.call (q2) rfl rfl (by simp [ownOK, own1, hd, fzH, fzArgs, fzCells, fz, IA, WI, DI, DA, CI, U32]) (by simp [U32, isD_u32, isD_v, isD_nil, isD_agg, IA, WI, DI, DA, CI]) ?_
  simp -implicitDefEqProofs only [go_sem, simprocAttr, -Int.reducePow, DD, x_app, x_ga0, x_gas, x_gan, Int.cast_ofNat_Int, eq_self, Int.zero_lt_one, Bool.not_false, Bool.not_true, beq_self_eq_true, WI, IA, DI, DA, CI]
theorem rof8_sat (v u : Int) (h1 : -9223372036854775808 ≤ v) (h2 : v ≤ 9223372036854775807) (g1 : -9223372036854775808 ≤ u) (g2 : u ≤ 9223372036854775807) : Sat CT false 15 [I64 v, I64 u] (CI ⟨dv v 0, dv u 0⟩) := by
  refine sat_of annulusref8_Of.ok (by simp) ?_
  have DD := annulusref8_Of.dr
  simp only [drP, drPx, drPt, drR, drS, drT, bodyOf, Tryz.f15, Nat.reduceEqDiff, reduceIte, true_and, and_true] at DD
  have q1 := rof4_sat v h1 h2
  have q2 := rof4_sat u g1 g2
  simp -implicitDefEqProofs only [go_sem, simprocAttr, -Int.reducePow, Tryz.f15, DD, beq_self_eq_true, Bool.not_false, Bool.not_true, WI, IA, DI, DA, CI]
  refine callK_of false annulusref4_Of.call (q1) rfl rfl (by simp [ownOK, own1, hd, fzH, fzArgs, fzCells, fz, IA, WI, DI, DA, CI, U32]) (by simp [U32, isD_u32, isD_v, isD_nil, isD_agg, IA, WI, DI, DA, CI]) ?_
  simp -implicitDefEqProofs only [go_sem, simprocAttr, -Int.reducePow, DD, x_app, x_ga0, x_gas, x_gan, Int.cast_ofNat_Int, eq_self, Int.zero_lt_one, Bool.not_false, Bool.not_true, beq_self_eq_true, WI, IA, DI, DA, CI]
  refine callK_of false annulusref4_Of.call (q2) rfl rfl (by simp [ownOK, own1, hd, fzH, fzArgs, fzCells, fz, IA, WI, DI, DA, CI, U32]) (by simp [U32, isD_u32, isD_v, isD_nil, isD_agg, IA, WI, DI, DA, CI]) ?_
  simp -implicitDefEqProofs only [go_sem, simprocAttr, -Int.reducePow, DD, x_app, x_ga0, x_gas, x_gan, Int.cast_ofNat_Int, eq_self, Int.zero_lt_one, Bool.not_false, Bool.not_true, beq_self_eq_true, WI, IA, DI, DA, CI]
theorem rneg8 (h : CB z B) (hB : B ≤ 20000) : Sat CT false 23 [CI z] (CI (-z)) := by
  refine sat_of annulusref8_Neg.ok (by simp) ?_
  have DD := annulusref8_Neg.dr
  simp only [drP, drPx, drPt, drR, drS, drT, bodyOf, Tryz.f23, Nat.reduceEqDiff, reduceIte, true_and, and_true] at DD
  have q1 := rneg4 h.1 hB
  have q2 := rneg4 h.2 hB
  simp -implicitDefEqProofs only [go_sem, simprocAttr, -Int.reducePow, Tryz.f23, DD, beq_self_eq_true, Bool.not_false, Bool.not_true, WI, IA, DI, DA, CI]
  refine callK_of false annulusref4_Neg.call (q1) rfl rfl (by simp [ownOK, own1, hd, fzH, fzArgs, fzCells, fz, IA, WI, DI, DA, CI, U32]) (by simp [U32, isD_u32, isD_v, isD_nil, isD_agg, IA, WI, DI, DA, CI]) ?_
  simp -implicitDefEqProofs only [go_sem, simprocAttr, -Int.reducePow, DD, x_app, x_ga0, x_gas, x_gan, Int.cast_ofNat_Int, eq_self, Int.zero_lt_one, Bool.not_false, Bool.not_true, beq_self_eq_true, WI, IA, DI, DA, CI]
  refine callK_of false annulusref4_Neg.call (q2) rfl rfl (by simp [ownOK, own1, hd, fzH, fzArgs, fzCells, fz, IA, WI, DI, DA, CI, U32]) (by simp [U32, isD_u32, isD_v, isD_nil, isD_agg, IA, WI, DI, DA, CI]) ?_
  simp -implicitDefEqProofs only [go_sem, simprocAttr, -Int.reducePow, DD, x_app, x_ga0, x_gas, x_gan, Int.cast_ofNat_Int, eq_self, Int.zero_lt_one, Bool.not_false, Bool.not_true, beq_self_eq_true, WI, IA, DI, DA, CI]
  rfl
theorem radd8 (h : CB z B) (g : CB w C) (hB : B ≤ 20000) (hC : C ≤ 20000) : Sat CT false 17 [CI z, CI w] (CI (z + w)) := by
  refine sat_of annulusref8_Add.ok (by simp) ?_
  have DD := annulusref8_Add.dr
  simp only [drP, drPx, drPt, drR, drS, drT, bodyOf, Tryz.f17, Nat.reduceEqDiff, reduceIte, true_and, and_true] at DD
  have q1 := radd4 h.1 g.1 hB hC
  have q2 := radd4 h.2 g.2 hB hC
  simp -implicitDefEqProofs only [go_sem, simprocAttr, -Int.reducePow, Tryz.f17, DD, beq_self_eq_true, Bool.not_false, Bool.not_true, WI, IA, DI, DA, CI]
  refine callK_of false annulusref4_Add.call (q1) rfl rfl (by simp [ownOK, own1, hd, fzH, fzArgs, fzCells, fz, IA, WI, DI, DA, CI, U32]) (by simp [U32, isD_u32, isD_v, isD_nil, isD_agg, IA, WI, DI, DA, CI]) ?_
  simp -implicitDefEqProofs only [go_sem, simprocAttr, -Int.reducePow, DD, x_app, x_ga0, x_gas, x_gan, Int.cast_ofNat_Int, eq_self, Int.zero_lt_one, Bool.not_false, Bool.not_true, beq_self_eq_true, WI, IA, DI, DA, CI]
  refine callK_of false annulusref4_Add.call (q2) rfl rfl (by simp [ownOK, own1, hd, fzH, fzArgs, fzCells, fz, IA, WI, DI, DA, CI, U32]) (by simp [U32, isD_u32, isD_v, isD_nil, isD_agg, IA, WI, DI, DA, CI]) ?_
  simp -implicitDefEqProofs only [go_sem, simprocAttr, -Int.reducePow, DD, x_app, x_ga0, x_gas, x_gan, Int.cast_ofNat_Int, eq_self, Int.zero_lt_one, Bool.not_false, Bool.not_true, beq_self_eq_true, WI, IA, DI, DA, CI]
  rfl
theorem requal8 (h : CB z B) (hB : B ≤ 20000) : Sat CT false 13 [CI z, CI z] (Bo true) := by
  refine sat_of annulusref8_Equal.ok (by simp) ?_
  have DD := annulusref8_Equal.dr
  simp only [drP, drPx, drPt, drR, drS, drT, bodyOf, Tryz.f13, Nat.reduceEqDiff, reduceIte, true_and, and_true] at DD
  have q1 := requal4 h.1 hB
  have q2 := requal4 h.2 hB
  simp -implicitDefEqProofs only [go_sem, simprocAttr, -Int.reducePow, Tryz.f13, DD, beq_self_eq_true, Bool.not_false, Bool.not_true, WI, IA, DI, DA, CI]
  refine callK_of false annulusref4_Equal.call (q1) rfl rfl (by simp [ownOK, own1, hd, fzH, fzArgs, fzCells, fz, IA, WI, DI, DA, CI, U32]) (by simp [U32, isD_u32, isD_v, isD_nil, isD_agg, IA, WI, DI, DA, CI]) ?_
  simp -implicitDefEqProofs only [go_sem, simprocAttr, -Int.reducePow, DD, x_app, x_ga0, x_gas, x_gan, Int.cast_ofNat_Int, eq_self, Int.zero_lt_one, Bool.not_false, Bool.not_true, beq_self_eq_true, WI, IA, DI, DA, CI]
  refine callK_of false annulusref4_Equal.call (q2) rfl rfl (by simp [ownOK, own1, hd, fzH, fzArgs, fzCells, fz, IA, WI, DI, DA, CI, U32]) (by simp [U32, isD_u32, isD_v, isD_nil, isD_agg, IA, WI, DI, DA, CI]) ?_
  simp -implicitDefEqProofs only [go_sem, simprocAttr, -Int.reducePow, DD, x_app, x_ga0, x_gas, x_gan, Int.cast_ofNat_Int, eq_self, Int.zero_lt_one, Bool.not_false, Bool.not_true, beq_self_eq_true, WI, IA, DI, DA, CI]
theorem rsub8 (h : CB z B) (g : CB w C) (hB : B ≤ 20000) (hC : C ≤ 20000) : Sat CT false 19 [CI z, CI w] (CI (z - w)) := by
  refine sat_of annulusref8_Sub.ok (by simp) ?_
  have DD := annulusref8_Sub.dr
  simp only [drP, drPx, drPt, drR, drS, drT, bodyOf, Tryz.f19, Nat.reduceEqDiff, reduceIte, true_and, and_true] at DD
  have q1 := rneg8 g hC
  have q2 := radd8 h g.neg hB hC
  simp -implicitDefEqProofs only [go_sem, simprocAttr, -Int.reducePow, Tryz.f19, DD, beq_self_eq_true, Bool.not_false, Bool.not_true, WI, IA, DI, DA, CI]
  refine callK_of false annulusref8_Neg.call (q1) rfl rfl (by simp [ownOK, own1, hd, fzH, fzArgs, fzCells, fz, IA, WI, DI, DA, CI, U32]) (by simp [U32, isD_u32, isD_v, isD_nil, isD_agg, IA, WI, DI, DA, CI]) ?_
  simp -implicitDefEqProofs only [go_sem, simprocAttr, -Int.reducePow, DD, x_app, x_ga0, x_gas, x_gan, Int.cast_ofNat_Int, eq_self, Int.zero_lt_one, Bool.not_false, Bool.not_true, beq_self_eq_true, WI, IA, DI, DA, CI]
  refine callK_of false annulusref8_Add.call (q2) rfl rfl (by simp [ownOK, own1, hd, fzH, fzArgs, fzCells, fz, IA, WI, DI, DA, CI, U32]) (by simp [U32, isD_u32, isD_v, isD_nil, isD_agg, IA, WI, DI, DA, CI]) ?_
  simp -implicitDefEqProofs only [go_sem, simprocAttr, -Int.reducePow, DD, x_app, x_ga0, x_gas, x_gan, Int.cast_ofNat_Int, eq_self, Int.zero_lt_one, Bool.not_false, Bool.not_true, beq_self_eq_true, WI, IA, DI, DA, CI]
  rw [Cx.sub_eq]
theorem rmul8 (h : CB z B) (g : CB w C) (hB : B + C ≤ 20000) : Sat CT false 21 [CI z, CI w] (CI (z * w)) := by
  refine sat_of annulusref8_Mul.ok (by simp) ?_
  have DD := annulusref8_Mul.dr
  simp only [drP, drPx, drPt, drR, drS, drT, bodyOf, Tryz.f21, Nat.reduceEqDiff, reduceIte, true_and, and_true] at DD
  have q1 := rmul4 (RD_D h.1) (RD_D g.1) (by omega) (by omega)
  have q2 := rmul4 (RD_D h.2) (RD_D g.2) (by omega) (by omega)
  have q3 := rsub4 (h.1.mul g.1) (h.2.mul g.2) hB hB
  have q4 := rmul4 (RD_D h.1) (RD_D g.2) (by omega) (by omega)
  have q5 := rmul4 (RD_D h.2) (RD_D g.1) (by omega) (by omega)
  have q6 := radd4 (h.1.mul g.2) (h.2.mul g.1) hB hB
  simp -implicitDefEqProofs only [go_sem, simprocAttr, -Int.reducePow, Tryz.f21, DD, beq_self_eq_true, Bool.not_false, Bool.not_true, WI, IA, DI, DA, CI]
  refine callK_of false annulusref4_Mul.call (q1) rfl rfl (by simp [ownOK, own1, hd, fzH, fzArgs, fzCells, fz, IA, WI, DI, DA, CI, U32]) (by simp [U32, isD_u32, isD_v, isD_nil, isD_agg, IA, WI, DI, DA, CI]) ?_
  simp -implicitDefEqProofs only [go_sem, simprocAttr, -Int.reducePow, DD, x_app, x_ga0, x_gas, x_gan, Int.cast_ofNat_Int, eq_self, Int.zero_lt_one, Bool.not_false, Bool.not_true, beq_self_eq_true, WI, IA, DI, DA, CI]
  refine callK_of false annulusref4_Mul.call (q2) rfl rfl (by simp [ownOK, own1, hd, fzH, fzArgs, fzCells, fz, IA, WI, DI, DA, CI, U32]) (by simp [U32, isD_u32, isD_v, isD_nil, isD_agg, IA, WI, DI, DA, CI]) ?_
  simp -implicitDefEqProofs only [go_sem, simprocAttr, -Int.reducePow, DD, x_app, x_ga0, x_gas, x_gan, Int.cast_ofNat_Int, eq_self, Int.zero_lt_one, Bool.not_false, Bool.not_true, beq_self_eq_true, WI, IA, DI, DA, CI]
  refine callK_of false annulusref4_Sub.call (q3) rfl rfl (by simp [ownOK, own1, hd, fzH, fzArgs, fzCells, fz, IA, WI, DI, DA, CI, U32]) (by simp [U32, isD_u32, isD_v, isD_nil, isD_agg, IA, WI, DI, DA, CI]) ?_
  simp -implicitDefEqProofs only [go_sem, simprocAttr, -Int.reducePow, DD, x_app, x_ga0, x_gas, x_gan, Int.cast_ofNat_Int, eq_self, Int.zero_lt_one, Bool.not_false, Bool.not_true, beq_self_eq_true, WI, IA, DI, DA, CI]
  refine callK_of false annulusref4_Mul.call (q4) rfl rfl (by simp [ownOK, own1, hd, fzH, fzArgs, fzCells, fz, IA, WI, DI, DA, CI, U32]) (by simp [U32, isD_u32, isD_v, isD_nil, isD_agg, IA, WI, DI, DA, CI]) ?_
  simp -implicitDefEqProofs only [go_sem, simprocAttr, -Int.reducePow, DD, x_app, x_ga0, x_gas, x_gan, Int.cast_ofNat_Int, eq_self, Int.zero_lt_one, Bool.not_false, Bool.not_true, beq_self_eq_true, WI, IA, DI, DA, CI]
  refine callK_of false annulusref4_Mul.call (q5) rfl rfl (by simp [ownOK, own1, hd, fzH, fzArgs, fzCells, fz, IA, WI, DI, DA, CI, U32]) (by simp [U32, isD_u32, isD_v, isD_nil, isD_agg, IA, WI, DI, DA, CI]) ?_
  simp -implicitDefEqProofs only [go_sem, simprocAttr, -Int.reducePow, DD, x_app, x_ga0, x_gas, x_gan, Int.cast_ofNat_Int, eq_self, Int.zero_lt_one, Bool.not_false, Bool.not_true, beq_self_eq_true, WI, IA, DI, DA, CI]
  refine callK_of false annulusref4_Add.call (q6) rfl rfl (by simp [ownOK, own1, hd, fzH, fzArgs, fzCells, fz, IA, WI, DI, DA, CI, U32]) (by simp [U32, isD_u32, isD_v, isD_nil, isD_agg, IA, WI, DI, DA, CI]) ?_
  simp -implicitDefEqProofs only [go_sem, simprocAttr, -Int.reducePow, DD, x_app, x_ga0, x_gas, x_gan, Int.cast_ofNat_Int, eq_self, Int.zero_lt_one, Bool.not_false, Bool.not_true, beq_self_eq_true, WI, IA, DI, DA, CI]
  rfl
end Go.Ab

/- Contracts of this seat's functions (of each call: what it answers), walked over the abstract machine, and the laws of numbers that they want. Conditions: those that each theorem states. -/
import Derived.Test.YtikhbokeaikcpaaDoorD3
set_option linter.unusedVariables false
set_option maxRecDepth 20000
set_option linter.unusedSimpArgs false
namespace Go.Ab
open Go.Proofs

open Cx (zero one)
variable {a b : AV} {x y : Dyadic} {z w : Cx} {B C : Nat}
theorem make_sat (n : Bool) (l : List Nat) (e : Int) (hl : Lm l) (hla : l.length < 1099511000) (hk : Lt2 (nv l) 100000) (he : e.natAbs ≤ 20000) : Sat CT false 41 [IA n l, I64 e] (DI (dv (iv n l) e)) := by
  refine sat_of annulusref4_Make.ok (by simp) ?_
  have DD := annulusref4_Make.dr
  simp only [drP, drPx, drPt, drR, drS, drT, bodyOf, Tryd.f41, Nat.reduceEqDiff, reduceIte, true_and, and_true] at DD
  have q1 := rnorm_sat n l hl (by omega)
  by_cases h0 : nv l = 0
  · rw [show iv n l = 0 by unfold iv; rw [h0]; cases n <;> rfl, dv_zero, DI_0]
    rw [WI_z h0] at q1
    simp -implicitDefEqProofs only [go_sem, simprocAttr, -Int.reducePow, Tryd.f41, DD, beq_self_eq_true, Bool.not_false, Bool.not_true, WI, IA, DI, DA]
    refine callK_of false annulusref1_Norm.call (q1) rfl rfl (by simp [ownOK, own1, hd, fzH, fzArgs, fzCells, fz, IA, WI, DI, DA, U32]) (by simp [U32, isD_u32, isD_v, isD_nil, isD_agg, IA, WI, DI, DA]) ?_
    simp -implicitDefEqProofs only [go_sem, simprocAttr, -Int.reducePow, DD, x_app, x_ga0, x_gas, x_gan, Int.cast_ofNat_Int, eq_self, Int.zero_lt_one, Bool.not_false, Bool.not_true, beq_self_eq_true, WI, IA, DI, DA]
    rfl
  · rw [DI_raw h0]
    rw [WI_nz h0] at q1
    have ht := tz_small h0 hk
    have hll := lim_nv_len (L := 1099511000) hl (by omega) (Nat.le_refl (nv l))
    have q2 := rlow_sat (lim (nv l)) (Lm_lim _) (by omega)
    rw [nv_lim] at q2
    have q3 := rshr_sat (lim (nv l)) ((tz (nv l) : Nat) : Int) (Lm_lim _) (by omega)
    rw [nv_lim, show shN ((tz (nv l) : Nat) : Int) = tz (nv l) by unfold shN; omega] at q3
    have c1 := lim_nz h0
    have c3 : max (-20000) (min e 20000) = e := by omega
    have c2 : IntKind.i64.wrap (e + ((tz (nv l) : Nat) : Int)) = e + ((tz (nv l) : Nat) : Int) := wrap_id (by omega)
    simp -implicitDefEqProofs only [go_sem, simprocAttr, -Int.reducePow, Tryd.f41, DD, beq_self_eq_true, Bool.not_false, Bool.not_true, WI, IA, DI, DA, c1, c2, c3]
    refine callK_of false annulusref1_Norm.call (q1) rfl rfl (by simp [ownOK, own1, hd, fzH, fzArgs, fzCells, fz, IA, WI, DI, DA, U32]) (by simp [U32, isD_u32, isD_v, isD_nil, isD_agg, IA, WI, DI, DA]) ?_
    simp -implicitDefEqProofs only [go_sem, simprocAttr, -Int.reducePow, DD, x_app, x_ga0, x_gas, x_gan, Int.cast_ofNat_Int, eq_self, Int.zero_lt_one, Bool.not_false, Bool.not_true, beq_self_eq_true, WI, IA, DI, DA, c1, c2, c3]
    refine callK_of false annulusref1_Low.call (q2) rfl rfl (by simp [ownOK, own1, hd, fzH, fzArgs, fzCells, fz, IA, WI, DI, DA, U32]) (by simp [U32, isD_u32, isD_v, isD_nil, isD_agg, IA, WI, DI, DA]) ?_
    simp -implicitDefEqProofs only [go_sem, simprocAttr, -Int.reducePow, DD, x_app, x_ga0, x_gas, x_gan, Int.cast_ofNat_Int, eq_self, Int.zero_lt_one, Bool.not_false, Bool.not_true, beq_self_eq_true, WI, IA, DI, DA, c1, c2, c3]
    refine callK_of false annulusref1_Shr.call (q3) rfl rfl (by simp [ownOK, own1, hd, fzH, fzArgs, fzCells, fz, IA, WI, DI, DA, U32]) (by simp [U32, isD_u32, isD_v, isD_nil, isD_agg, IA, WI, DI, DA]) ?_
    simp -implicitDefEqProofs only [go_sem, simprocAttr, -Int.reducePow, DD, x_app, x_ga0, x_gas, x_gan, Int.cast_ofNat_Int, eq_self, Int.zero_lt_one, Bool.not_false, Bool.not_true, beq_self_eq_true, WI, IA, DI, DA, c1, c2, c3]
theorem rof4_sat (v : Int) (h1 : -9223372036854775808 ≤ v) (h2 : v ≤ 9223372036854775807) : Sat CT false 33 [I64 v] (DI (dv v 0)) := by
  refine sat_of annulusref4_Of.ok (by simp) ?_
  have DD := annulusref4_Of.dr
  simp only [drP, drPx, drPt, drR, drS, drT, bodyOf, Tryd.f33, Nat.reduceEqDiff, reduceIte, true_and, and_true] at DD
  have pz : Lt2 v.natAbs 64 := by unfold Lt2; omega
  have lz := len_pow2 pz
  have q1 := rof_sat v h1 h2
  have q2 := make_sat (decide (v < 0)) (lim v.natAbs) 0 (Lm_lim _) (by omega) (by rw [nv_lim]; exact pow2_lt pz (by omega)) (by decide)
  rw [iv_W] at q2
  simp -implicitDefEqProofs only [go_sem, simprocAttr, -Int.reducePow, Tryd.f33, DD, beq_self_eq_true, Bool.not_false, Bool.not_true, WI, IA, DI, DA]
  refine callK_of false annulusref1_Of.call (q1) rfl rfl (by simp [ownOK, own1, hd, fzH, fzArgs, fzCells, fz, IA, WI, DI, DA, U32]) (by simp [U32, isD_u32, isD_v, isD_nil, isD_agg, IA, WI, DI, DA]) ?_
  simp -implicitDefEqProofs only [go_sem, simprocAttr, -Int.reducePow, DD, x_app, x_ga0, x_gas, x_gan, Int.cast_ofNat_Int, eq_self, Int.zero_lt_one, Bool.not_false, Bool.not_true, beq_self_eq_true, WI, IA, DI, DA]
  refine callK_of false annulusref4_Make.call (q2) rfl rfl (by simp [ownOK, own1, hd, fzH, fzArgs, fzCells, fz, IA, WI, DI, DA, U32]) (by simp [U32, isD_u32, isD_v, isD_nil, isD_agg, IA, WI, DI, DA]) ?_
  simp -implicitDefEqProofs only [go_sem, simprocAttr, -Int.reducePow, DD, x_app, x_ga0, x_gas, x_gan, Int.cast_ofNat_Int, eq_self, Int.zero_lt_one, Bool.not_false, Bool.not_true, beq_self_eq_true, WI, IA, DI, DA]
theorem requal4 (h : DB x B) (hB : B ≤ 20000) : Sat CT false 13 [DI x, DI x] (Bo true) := by
  refine sat_of annulusref4_Equal.ok (by simp) ?_
  have DD := annulusref4_Equal.dr
  simp only [drP, drPx, drPt, drR, drS, drT, bodyOf, Tryd.f13, Nat.reduceEqDiff, reduceIte, true_and, and_true] at DD
  have hx1 := h.lim
  have q := same_w (x := dnum x) (y := dnum x) rfl (by show (lim (dnum x).natAbs).length < _; omega)
  simp -implicitDefEqProofs only [go_sem, simprocAttr, -Int.reducePow, Tryd.f13, DD, beq_self_eq_true, Bool.not_false, Bool.not_true, WI, IA, DI, DA]
  refine callK_of false annulusref1_SameInt.call (q) rfl rfl (by simp [ownOK, own1, hd, fzH, fzArgs, fzCells, fz, IA, WI, DI, DA, U32]) (by simp [U32, isD_u32, isD_v, isD_nil, isD_agg, IA, WI, DI, DA]) ?_
  simp -implicitDefEqProofs only [go_sem, simprocAttr, -Int.reducePow, DD, x_app, x_ga0, x_gas, x_gan, Int.cast_ofNat_Int, eq_self, Int.zero_lt_one, Bool.not_false, Bool.not_true, beq_self_eq_true, WI, IA, DI, DA]
theorem rof8_sat (v u : Int) (h1 : -9223372036854775808 ≤ v) (h2 : v ≤ 9223372036854775807) (g1 : -9223372036854775808 ≤ u) (g2 : u ≤ 9223372036854775807) : Sat CT false 35 [I64 v, I64 u] (CI ⟨dv v 0, dv u 0⟩) := by
  refine sat_of annulusref8_Of.ok (by simp) ?_
  have DD := annulusref8_Of.dr
  simp only [drP, drPx, drPt, drR, drS, drT, bodyOf, Tryd.f35, Nat.reduceEqDiff, reduceIte, true_and, and_true] at DD
  have q1 := rof4_sat v h1 h2
  have q2 := rof4_sat u g1 g2
  simp -implicitDefEqProofs only [go_sem, simprocAttr, -Int.reducePow, Tryd.f35, DD, beq_self_eq_true, Bool.not_false, Bool.not_true, WI, IA, DI, DA, CI]
  refine callK_of false annulusref4_Of.call (q1) rfl rfl (by simp [ownOK, own1, hd, fzH, fzArgs, fzCells, fz, IA, WI, DI, DA, CI, U32]) (by simp [U32, isD_u32, isD_v, isD_nil, isD_agg, IA, WI, DI, DA, CI]) ?_
  simp -implicitDefEqProofs only [go_sem, simprocAttr, -Int.reducePow, DD, x_app, x_ga0, x_gas, x_gan, Int.cast_ofNat_Int, eq_self, Int.zero_lt_one, Bool.not_false, Bool.not_true, beq_self_eq_true, WI, IA, DI, DA, CI]
  refine callK_of false annulusref4_Of.call (q2) rfl rfl (by simp [ownOK, own1, hd, fzH, fzArgs, fzCells, fz, IA, WI, DI, DA, CI, U32]) (by simp [U32, isD_u32, isD_v, isD_nil, isD_agg, IA, WI, DI, DA, CI]) ?_
  simp -implicitDefEqProofs only [go_sem, simprocAttr, -Int.reducePow, DD, x_app, x_ga0, x_gas, x_gan, Int.cast_ofNat_Int, eq_self, Int.zero_lt_one, Bool.not_false, Bool.not_true, beq_self_eq_true, WI, IA, DI, DA, CI]
theorem requal8 (h : CB z B) (hB : B ≤ 20000) : Sat CT false 12 [CI z, CI z] (Bo true) := by
  refine sat_of annulusref8_Equal.ok (by simp) ?_
  have DD := annulusref8_Equal.dr
  simp only [drP, drPx, drPt, drR, drS, drT, bodyOf, Tryd.f12, Nat.reduceEqDiff, reduceIte, true_and, and_true] at DD
  have q1 := requal4 h.1 hB
  have q2 := requal4 h.2 hB
  simp -implicitDefEqProofs only [go_sem, simprocAttr, -Int.reducePow, Tryd.f12, DD, beq_self_eq_true, Bool.not_false, Bool.not_true, WI, IA, DI, DA, CI]
  refine callK_of false annulusref4_Equal.call (q1) rfl rfl (by simp [ownOK, own1, hd, fzH, fzArgs, fzCells, fz, IA, WI, DI, DA, CI, U32]) (by simp [U32, isD_u32, isD_v, isD_nil, isD_agg, IA, WI, DI, DA, CI]) ?_
  simp -implicitDefEqProofs only [go_sem, simprocAttr, -Int.reducePow, DD, x_app, x_ga0, x_gas, x_gan, Int.cast_ofNat_Int, eq_self, Int.zero_lt_one, Bool.not_false, Bool.not_true, beq_self_eq_true, WI, IA, DI, DA, CI]
  refine callK_of false annulusref4_Equal.call (q2) rfl rfl (by simp [ownOK, own1, hd, fzH, fzArgs, fzCells, fz, IA, WI, DI, DA, CI, U32]) (by simp [U32, isD_u32, isD_v, isD_nil, isD_agg, IA, WI, DI, DA, CI]) ?_
  simp -implicitDefEqProofs only [go_sem, simprocAttr, -Int.reducePow, DD, x_app, x_ga0, x_gas, x_gan, Int.cast_ofNat_Int, eq_self, Int.zero_lt_one, Bool.not_false, Bool.not_true, beq_self_eq_true, WI, IA, DI, DA, CI]
end Go.Ab

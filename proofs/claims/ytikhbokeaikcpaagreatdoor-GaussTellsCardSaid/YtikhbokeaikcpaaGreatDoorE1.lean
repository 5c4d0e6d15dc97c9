/- Contracts of this seat's functions (of each call: what it answers), walked over the abstract machine, and the laws of numbers that they want. Conditions: those that each theorem states. -/
import Derived.Test.YtikhbokeaikcpaaGreatDoorD18
set_option linter.unusedVariables false
set_option maxRecDepth 20000
set_option linter.unusedSimpArgs false
set_option linter.unusedSectionVars false
namespace Go.Ab
open Go.Proofs
open Cx (zero one)
attribute [-go_sem] appF newsF
variable {a b : AV} {z w : Cx} {B C n m : Nat} {cs ds : List AV} {f g : Po}
variable {x y : Dyadic}
theorem gtimes_r {b : AV} (ha : RC a z B) (hb : RD b x C) (hB : B + C ≤ 20000) : Sat CT false 29 [a, b] (CI ⟨z.re * x, z.im * x⟩) := by
  refine sat_of gauss_Times.ok (by simp) ?_
  have DD := gauss_Times.dr
  simp only [drP, drPx, drPt, drR, drS, drT, bodyOf, Tryz.f29, Nat.reduceEqDiff, reduceIte, true_and, and_true] at DD
  obtain ⟨n, l, e, m, k, f, rfl, hr, hi⟩ := ha
  have q1 := dmul_r hr hb (by omega) (by omega)
  have q2 := dmul_r hi hb (by omega) (by omega)
  obtain ⟨n', l', e', rfl, _⟩ := hb
  simp -implicitDefEqProofs only [go_sem, simprocAttr, -Int.reducePow, Tryz.f29, DD, x_app, x_ga0, x_gas, x_gan, Int.cast_ofNat_Int, eq_self, Int.zero_lt_one, Bool.not_false, Bool.not_true, beq_self_eq_true, WI, IA, DI, DA, CI]
  refine callK_of false dyad_Mul.call (q1) rfl rfl (by simp [ownOK, own1, hd, fzH, fzArgs, fzCells, fz, IA, WI, DI, DA, CI, U32]) (by simp [U32, isD_u32, isD_v, isD_nil, isD_agg, IA, WI, DI, DA, CI]) ?_
  simp -implicitDefEqProofs only [go_sem, simprocAttr, -Int.reducePow, DD, x_app, x_ga0, x_gas, x_gan, Int.cast_ofNat_Int, eq_self, Int.zero_lt_one, Bool.not_false, Bool.not_true, beq_self_eq_true, WI, IA, DI, DA, CI]
  refine callK_of false dyad_Mul.call (q2) rfl rfl (by simp [ownOK, own1, hd, fzH, fzArgs, fzCells, fz, IA, WI, DI, DA, CI, U32]) (by simp [U32, isD_u32, isD_v, isD_nil, isD_agg, IA, WI, DI, DA, CI]) ?_
  simp -implicitDefEqProofs only [go_sem, simprocAttr, -Int.reducePow, DD, x_app, x_ga0, x_gas, x_gan, Int.cast_ofNat_Int, eq_self, Int.zero_lt_one, Bool.not_false, Bool.not_true, beq_self_eq_true, WI, IA, DI, DA, CI]
theorem rtimes8 (hz : CB z B) (hx : DB x C) (hB : B + C ≤ 20000) : Sat CT false 30 [CI z, DI x] (CI ⟨z.re * x, z.im * x⟩) := by
  refine sat_of annulusref8_Times.ok (by simp) ?_
  have DD := annulusref8_Times.dr
  simp only [drP, drPx, drPt, drR, drS, drT, bodyOf, Tryz.f30, Nat.reduceEqDiff, reduceIte, true_and, and_true] at DD
  have q1 := rmul4 (RD_D hz.1) (RD_D hx) (by omega) (by omega)
  have q2 := rmul4 (RD_D hz.2) (RD_D hx) (by omega) (by omega)
  simp -implicitDefEqProofs only [go_sem, simprocAttr, -Int.reducePow, Tryz.f30, DD, x_app, x_ga0, x_gas, x_gan, Int.cast_ofNat_Int, eq_self, Int.zero_lt_one, Bool.not_false, Bool.not_true, beq_self_eq_true, WI, IA, DI, DA, CI]
  refine callK_of false annulusref4_Mul.call (q1) rfl rfl (by simp [ownOK, own1, hd, fzH, fzArgs, fzCells, fz, IA, WI, DI, DA, CI, U32]) (by simp [U32, isD_u32, isD_v, isD_nil, isD_agg, IA, WI, DI, DA, CI]) ?_
  simp -implicitDefEqProofs only [go_sem, simprocAttr, -Int.reducePow, DD, x_app, x_ga0, x_gas, x_gan, Int.cast_ofNat_Int, eq_self, Int.zero_lt_one, Bool.not_false, Bool.not_true, beq_self_eq_true, WI, IA, DI, DA, CI]
  refine callK_of false annulusref4_Mul.call (q2) rfl rfl (by simp [ownOK, own1, hd, fzH, fzArgs, fzCells, fz, IA, WI, DI, DA, CI, U32]) (by simp [U32, isD_u32, isD_v, isD_nil, isD_agg, IA, WI, DI, DA, CI]) ?_
  simp -implicitDefEqProofs only [go_sem, simprocAttr, -Int.reducePow, DD, x_app, x_ga0, x_gas, x_gan, Int.cast_ofNat_Int, eq_self, Int.zero_lt_one, Bool.not_false, Bool.not_true, beq_self_eq_true, WI, IA, DI, DA, CI]
end Go.Ab

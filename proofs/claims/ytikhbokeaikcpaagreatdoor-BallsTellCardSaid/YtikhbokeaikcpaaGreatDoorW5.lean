/- Contracts of this seat's functions (of each call: what it answers), walked over the abstract machine, and the laws of numbers that they want. Conditions: those that each theorem states. -/
import Derived.Test.YtikhbokeaikcpaaGreatDoorN22
set_option linter.unusedVariables false
set_option maxRecDepth 20000
set_option linter.unusedSimpArgs false
namespace Go.Ab
open Go.Proofs

theorem rshrint_sat (n : Bool) (l : List Nat) (c : Int) (hl : Lm l) (hla : l.length ≤ 1099511000) : Sat CT false 179 [IA n l, I64 c] (WI (fq (iv n l) (2 ^ shN c))) := by
  refine sat_of annulusref1_ShrInt.ok (by simp) ?_
  have DD := annulusref1_ShrInt.dr
  simp only [drP, drPx, drPt, drR, drS, drT, bodyOf, Tryz.f179, Nat.reduceEqDiff, reduceIte, true_and, and_true] at DD
  have g2 := shN_le c
  have g := lim_pow2 (shN c)
  have h1 := rshl_satT [1] c Lm1 (by simp)
  rw [nv1, Nat.one_mul] at h1
  have hne : nv (lim (2 ^ shN c)) ≠ 0 := by rw [nv_lim]; exact Nat.ne_of_gt (Nat.two_pow_pos _)
  have d := rdivint_ok n false l (lim (2 ^ shN c)) hl (Lm_lim _) (by omega) (by omega) hne
  have e : iv false (lim (2 ^ shN c)) = 2 ^ shN c := by rw [iv_lim]; simp
  rw [e] at d
  simp -implicitDefEqProofs only [go_sem, Nat.reduceAdd, Nat.reduceEqDiff, Nat.reduceLT, reduceIte, reduceCtorEq, Int.reduceLE, Int.reduceLT, Int.reduceEq, Int.reduceAdd, Int.reduceMul, Int.reduceSub, Nat.reduceMul, Nat.reduceSub, Nat.reducePow, Nat.reduceLeDiff, Int.reduceToNat, Tryz.f179, DD, beq_self_eq_true, Bool.not_false, Bool.not_true, WI, IA]
  refine callK_of true annulusref1_Shl.call (h1) rfl rfl (by simp [ownOK, own1, hd, fzH, fzArgs, fzCells, fz, IA, WI, U32]) (by simp [U32, isD_u32, isD_v, isD_nil, isD_agg, IA, WI]) ?_
  simp -implicitDefEqProofs only [go_sem, Nat.reduceAdd, Nat.reduceEqDiff, Nat.reduceLT, reduceIte, reduceCtorEq, Int.reduceLE, Int.reduceLT, Int.reduceEq, Int.reduceAdd, Int.reduceMul, Int.reduceSub, Nat.reduceMul, Nat.reduceSub, Nat.reducePow, Nat.reduceLeDiff, Int.reduceToNat, DD, x_app, x_ga0, x_gas, x_gan, Int.cast_ofNat_Int, eq_self, Int.zero_lt_one, Bool.not_false, Bool.not_true, beq_self_eq_true, WI, IA]
  refine callK_of false annulusref1_DivInt.call (d) rfl rfl (by simp [ownOK, own1, hd, fzH, fzArgs, fzCells, fz, IA, WI, U32]) (by simp [U32, isD_u32, isD_v, isD_nil, isD_agg, IA, WI]) ?_
  simp -implicitDefEqProofs only [go_sem, Nat.reduceAdd, Nat.reduceEqDiff, Nat.reduceLT, reduceIte, reduceCtorEq, Int.reduceLE, Int.reduceLT, Int.reduceEq, Int.reduceAdd, Int.reduceMul, Int.reduceSub, Nat.reduceMul, Nat.reduceSub, Nat.reducePow, Nat.reduceLeDiff, Int.reduceToNat, DD, x_app, x_ga0, x_gas, x_gan, Int.cast_ofNat_Int, eq_self, Int.zero_lt_one, Bool.not_false, Bool.not_true, beq_self_eq_true, WI, IA]
end Go.Ab

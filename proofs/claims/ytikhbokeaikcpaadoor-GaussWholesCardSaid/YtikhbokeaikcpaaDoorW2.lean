/- Contracts of this seat's functions (of each call: what it answers), walked over the abstract machine, and the laws of numbers that they want. Conditions: those that each theorem states. -/
import Derived.Test.YtikhbokeaikcpaaDoorW1
set_option linter.unusedVariables false
set_option maxRecDepth 20000
set_option linter.unusedSimpArgs false
namespace Go.Ab
open Go.Proofs

theorem wsign_sat (n : Bool) (l : List Nat) (hl : Lm l) (hla : l.length < 1099511627776) : Sat CT false 82 [IA n l] (I64 (iv n l).sign) := by
  refine sat_of whole_Sign.ok (by simp) ?_
  have DD := whole_Sign.dr
  simp only [drP, drPx, drPt, drR, drS, drT, bodyOf, Tryd.f82, Nat.reduceEqDiff, reduceIte, true_and, and_true] at DD
  have hc : iv n l < 0 ∨ iv n l = 0 ∨ 0 < iv n l := by omega
  have hlen : iv n l ≠ 0 → (lim (iv n l).natAbs).length ≠ 0 := fun h e => by
    have := nv_nil_of e
    rw [nv_lim] at this
    omega
  have hlen0 : iv n l = 0 → (lim (iv n l).natAbs).length = 0 := fun h => by rw [h]; exact congrArg List.length lim_zero
  have q := norm_sat n l hl (by omega)
  generalize iv n l = z at *
  rcases hc with h | h | h
  · have c1 := decide_eq_true h
    have c2 : min ((lim z.natAbs).length : Int) 1 = 1 := by have := hlen (by omega); omega
    have c3 : IntKind.i64.wrap 3 = 3 := rfl
    rw [Int.sign_eq_neg_one_of_neg h]
    simp -implicitDefEqProofs only [go_sem, Nat.reduceAdd, Nat.reduceEqDiff, Nat.reduceLT, reduceIte, reduceCtorEq, Int.reduceLE, Int.reduceLT, Int.reduceEq, Int.reduceAdd, Int.reduceMul, Int.reduceSub, Nat.reduceMul, Nat.reduceSub, Nat.reducePow, Nat.reduceLeDiff, Int.reduceToNat, Tryd.f82, DD, beq_self_eq_true, Bool.not_false, Bool.not_true, WI, IA, c1, c2, c3]
    refine callK_of false whole_Norm.call (q) rfl rfl (by simp [ownOK, own1, hd, fzH, fzArgs, fzCells, fz, IA, WI, U32]) (by simp [U32, isD_u32, isD_v, isD_nil, isD_agg, IA, WI]) ?_
    simp -implicitDefEqProofs only [go_sem, Nat.reduceAdd, Nat.reduceEqDiff, Nat.reduceLT, reduceIte, reduceCtorEq, Int.reduceLE, Int.reduceLT, Int.reduceEq, Int.reduceAdd, Int.reduceMul, Int.reduceSub, Nat.reduceMul, Nat.reduceSub, Nat.reducePow, Nat.reduceLeDiff, Int.reduceToNat, DD, x_app, x_ga0, x_gas, x_gan, Int.cast_ofNat_Int, eq_self, Int.zero_lt_one, Bool.not_false, Bool.not_true, beq_self_eq_true, WI, IA, c1, c2, c3]
  · have c1 : decide (z < 0) = false := decide_eq_false (by omega)
    have c2 : min ((lim z.natAbs).length : Int) 1 = 0 := by have := hlen0 h; omega
    rw [show z.sign = 0 by rw [h]; rfl]
    simp -implicitDefEqProofs only [go_sem, Nat.reduceAdd, Nat.reduceEqDiff, Nat.reduceLT, reduceIte, reduceCtorEq, Int.reduceLE, Int.reduceLT, Int.reduceEq, Int.reduceAdd, Int.reduceMul, Int.reduceSub, Nat.reduceMul, Nat.reduceSub, Nat.reducePow, Nat.reduceLeDiff, Int.reduceToNat, Tryd.f82, DD, beq_self_eq_true, Bool.not_false, Bool.not_true, WI, IA, c1, c2]
    refine callK_of false whole_Norm.call (q) rfl rfl (by simp [ownOK, own1, hd, fzH, fzArgs, fzCells, fz, IA, WI, U32]) (by simp [U32, isD_u32, isD_v, isD_nil, isD_agg, IA, WI]) ?_
    simp -implicitDefEqProofs only [go_sem, Nat.reduceAdd, Nat.reduceEqDiff, Nat.reduceLT, reduceIte, reduceCtorEq, Int.reduceLE, Int.reduceLT, Int.reduceEq, Int.reduceAdd, Int.reduceMul, Int.reduceSub, Nat.reduceMul, Nat.reduceSub, Nat.reducePow, Nat.reduceLeDiff, Int.reduceToNat, DD, x_app, x_ga0, x_gas, x_gan, Int.cast_ofNat_Int, eq_self, Int.zero_lt_one, Bool.not_false, Bool.not_true, beq_self_eq_true, WI, IA, c1, c2]
  · have c1 : decide (z < 0) = false := decide_eq_false (by omega)
    have c2 : min ((lim z.natAbs).length : Int) 1 = 1 := by have := hlen (by omega); omega
    rw [Int.sign_eq_one_of_pos h]
    simp -implicitDefEqProofs only [go_sem, Nat.reduceAdd, Nat.reduceEqDiff, Nat.reduceLT, reduceIte, reduceCtorEq, Int.reduceLE, Int.reduceLT, Int.reduceEq, Int.reduceAdd, Int.reduceMul, Int.reduceSub, Nat.reduceMul, Nat.reduceSub, Nat.reducePow, Nat.reduceLeDiff, Int.reduceToNat, Tryd.f82, DD, beq_self_eq_true, Bool.not_false, Bool.not_true, WI, IA, c1, c2]
    refine callK_of false whole_Norm.call (q) rfl rfl (by simp [ownOK, own1, hd, fzH, fzArgs, fzCells, fz, IA, WI, U32]) (by simp [U32, isD_u32, isD_v, isD_nil, isD_agg, IA, WI]) ?_
    simp -implicitDefEqProofs only [go_sem, Nat.reduceAdd, Nat.reduceEqDiff, Nat.reduceLT, reduceIte, reduceCtorEq, Int.reduceLE, Int.reduceLT, Int.reduceEq, Int.reduceAdd, Int.reduceMul, Int.reduceSub, Nat.reduceMul, Nat.reduceSub, Nat.reducePow, Nat.reduceLeDiff, Int.reduceToNat, DD, x_app, x_ga0, x_gas, x_gan, Int.cast_ofNat_Int, eq_self, Int.zero_lt_one, Bool.not_false, Bool.not_true, beq_self_eq_true, WI, IA, c1, c2]
theorem rsign_sat (n : Bool) (l : List Nat) (hl : Lm l) (hla : l.length < 1099511627776) : Sat CT false 55 [IA n l] (I64 (iv n l).sign) := by
  refine sat_of annulusref1_Sign.ok (by simp) ?_
  have DD := annulusref1_Sign.dr
  simp only [drP, drPx, drPt, drR, drS, drT, bodyOf, Tryd.f55, Nat.reduceEqDiff, reduceIte, true_and, and_true] at DD
  have hc : iv n l < 0 ∨ iv n l = 0 ∨ 0 < iv n l := by omega
  have hlen : iv n l ≠ 0 → (lim (iv n l).natAbs).length ≠ 0 := fun h e => by
    have := nv_nil_of e
    rw [nv_lim] at this
    omega
  have hlen0 : iv n l = 0 → (lim (iv n l).natAbs).length = 0 := fun h => by rw [h]; exact congrArg List.length lim_zero
  have q := rnorm_sat n l hl (by omega)
  generalize iv n l = z at *
  rcases hc with h | h | h
  · have c1 := decide_eq_true h
    have c2 : ¬ ((lim z.natAbs).length : Int) = 0 := by have := hlen (by omega); omega
    rw [Int.sign_eq_neg_one_of_neg h]
    simp -implicitDefEqProofs only [go_sem, Nat.reduceAdd, Nat.reduceEqDiff, Nat.reduceLT, reduceIte, reduceCtorEq, Int.reduceLE, Int.reduceLT, Int.reduceEq, Int.reduceAdd, Int.reduceMul, Int.reduceSub, Nat.reduceMul, Nat.reduceSub, Nat.reducePow, Nat.reduceLeDiff, Int.reduceToNat, Tryd.f55, DD, beq_self_eq_true, Bool.not_false, Bool.not_true, WI, IA, c1, c2]
    refine callK_of false annulusref1_Norm.call (q) rfl rfl (by simp [ownOK, own1, hd, fzH, fzArgs, fzCells, fz, IA, WI, U32]) (by simp [U32, isD_u32, isD_v, isD_nil, isD_agg, IA, WI]) ?_
    simp -implicitDefEqProofs only [go_sem, Nat.reduceAdd, Nat.reduceEqDiff, Nat.reduceLT, reduceIte, reduceCtorEq, Int.reduceLE, Int.reduceLT, Int.reduceEq, Int.reduceAdd, Int.reduceMul, Int.reduceSub, Nat.reduceMul, Nat.reduceSub, Nat.reducePow, Nat.reduceLeDiff, Int.reduceToNat, DD, x_app, x_ga0, x_gas, x_gan, Int.cast_ofNat_Int, eq_self, Int.zero_lt_one, Bool.not_false, Bool.not_true, beq_self_eq_true, WI, IA, c1, c2]
  · have c1 : decide (z < 0) = false := decide_eq_false (by omega)
    have c2 : ((lim z.natAbs).length : Int) = 0 := by have := hlen0 h; omega
    rw [show z.sign = 0 by rw [h]; rfl]
    simp -implicitDefEqProofs only [go_sem, Nat.reduceAdd, Nat.reduceEqDiff, Nat.reduceLT, reduceIte, reduceCtorEq, Int.reduceLE, Int.reduceLT, Int.reduceEq, Int.reduceAdd, Int.reduceMul, Int.reduceSub, Nat.reduceMul, Nat.reduceSub, Nat.reducePow, Nat.reduceLeDiff, Int.reduceToNat, Tryd.f55, DD, beq_self_eq_true, Bool.not_false, Bool.not_true, WI, IA, c1, c2]
    refine callK_of false annulusref1_Norm.call (q) rfl rfl (by simp [ownOK, own1, hd, fzH, fzArgs, fzCells, fz, IA, WI, U32]) (by simp [U32, isD_u32, isD_v, isD_nil, isD_agg, IA, WI]) ?_
    simp -implicitDefEqProofs only [go_sem, Nat.reduceAdd, Nat.reduceEqDiff, Nat.reduceLT, reduceIte, reduceCtorEq, Int.reduceLE, Int.reduceLT, Int.reduceEq, Int.reduceAdd, Int.reduceMul, Int.reduceSub, Nat.reduceMul, Nat.reduceSub, Nat.reducePow, Nat.reduceLeDiff, Int.reduceToNat, DD, x_app, x_ga0, x_gas, x_gan, Int.cast_ofNat_Int, eq_self, Int.zero_lt_one, Bool.not_false, Bool.not_true, beq_self_eq_true, WI, IA, c1, c2]
  · have c1 : decide (z < 0) = false := decide_eq_false (by omega)
    have c2 : ¬ ((lim z.natAbs).length : Int) = 0 := by have := hlen (by omega); omega
    rw [Int.sign_eq_one_of_pos h]
    simp -implicitDefEqProofs only [go_sem, Nat.reduceAdd, Nat.reduceEqDiff, Nat.reduceLT, reduceIte, reduceCtorEq, Int.reduceLE, Int.reduceLT, Int.reduceEq, Int.reduceAdd, Int.reduceMul, Int.reduceSub, Nat.reduceMul, Nat.reduceSub, Nat.reducePow, Nat.reduceLeDiff, Int.reduceToNat, Tryd.f55, DD, beq_self_eq_true, Bool.not_false, Bool.not_true, WI, IA, c1, c2]
    refine callK_of false annulusref1_Norm.call (q) rfl rfl (by simp [ownOK, own1, hd, fzH, fzArgs, fzCells, fz, IA, WI, U32]) (by simp [U32, isD_u32, isD_v, isD_nil, isD_agg, IA, WI]) ?_
    simp -implicitDefEqProofs only [go_sem, Nat.reduceAdd, Nat.reduceEqDiff, Nat.reduceLT, reduceIte, reduceCtorEq, Int.reduceLE, Int.reduceLT, Int.reduceEq, Int.reduceAdd, Int.reduceMul, Int.reduceSub, Nat.reduceMul, Nat.reduceSub, Nat.reducePow, Nat.reduceLeDiff, Int.reduceToNat, DD, x_app, x_ga0, x_gas, x_gan, Int.cast_ofNat_Int, eq_self, Int.zero_lt_one, Bool.not_false, Bool.not_true, beq_self_eq_true, WI, IA, c1, c2]
theorem same_int (n m : Bool) (l k : List Nat) (hla : l.length < 1099511627776) (h1 : n = m) (h2 : l = k) : Sat CT false 40 [IA n l, IA m k] (Bo true) := by
  refine sat_of annulusref1_SameInt.ok (by simp) ?_
  have DD := annulusref1_SameInt.dr
  simp only [drP, drPx, drPt, drR, drS, drT, bodyOf, Tryd.f40, Nat.reduceEqDiff, reduceIte, true_and, and_true] at DD
  subst h1 h2
  simp -implicitDefEqProofs only [go_sem, Nat.reduceAdd, Nat.reduceEqDiff, Nat.reduceLT, reduceIte, reduceCtorEq, Int.reduceLE, Int.reduceLT, Int.reduceEq, Int.reduceAdd, Int.reduceMul, Int.reduceSub, Nat.reduceMul, Nat.reduceSub, Nat.reducePow, Nat.reduceLeDiff, Int.reduceToNat, Tryd.f40, DD, beq_self_eq_true, Bool.not_false, Bool.not_true, WI, IA]
  refine callK_of false annulusref1_Same.call (same_yes l l rfl hla) rfl rfl (by simp [ownOK, own1, hd, fzH, fzArgs, fzCells, fz, IA, WI, U32]) (by simp [U32, isD_u32, isD_v, isD_nil, isD_agg, IA, WI]) ?_
  simp -implicitDefEqProofs only [go_sem, Nat.reduceAdd, Nat.reduceEqDiff, Nat.reduceLT, reduceIte, reduceCtorEq, Int.reduceLE, Int.reduceLT, Int.reduceEq, Int.reduceAdd, Int.reduceMul, Int.reduceSub, Nat.reduceMul, Nat.reduceSub, Nat.reducePow, Nat.reduceLeDiff, Int.reduceToNat, DD, x_app, x_ga0, x_gas, x_gan, Int.cast_ofNat_Int, eq_self, Int.zero_lt_one, Bool.not_false, Bool.not_true, beq_self_eq_true, WI, IA]
theorem same_w {x y : Int} (h : x = y) (hx : Lz x < 1099511627776) : Sat CT false 40 [WI x, WI y] (Bo true) := by
  subst h; exact same_int _ _ _ _ hx rfl rfl
end Go.Ab

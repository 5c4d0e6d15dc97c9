/- Contracts of this seat's functions (of each call: what it answers), walked over the abstract machine, and the laws of numbers that they want. Conditions: those that each theorem states. -/
import Derived.Test.YtdkdpebfnddfpaaDoorD9
set_option linter.unusedVariables false
set_option maxRecDepth 20000
set_option linter.unusedSimpArgs false
set_option linter.unusedSectionVars false
namespace Go.Ab
open Go.Proofs
open Cx (zero one)
attribute [-go_sem] appF newsF
variable {a b : AV} {z w : Cx} {B C n m : Nat} {cs ds : List AV} {f g : Po}
theorem ASl.lastP {H : Heap} {k i : Nat} {g : Po} (h : H.getD k ⟨[], false, false⟩ = ⟨pcl i g ++ CIc (g i), true, true⟩) (hl : H.length = k + 1) : ASl 6 (.own 6 k 0 (i + 1)) H (pcl (i + 1) g) (i + 1) :=
  ASl.last (by rw [pclS]; exact h) hl (pcl_len _ _)
theorem sameint_d {x y : Int} (hx : Lz x < 1099511627776) (hy : Lz y < 1099511627776) : Sat CT false 64 [WI x, WI y] (Bo (decide (x = y))) := by
  by_cases e : x = y
  · rw [decide_eq_true e]; exact same_w e hx
  rw [decide_eq_false e]
  refine sat_of annulusref1_SameInt.ok (by simp) ?_
  have DD := annulusref1_SameInt.dr
  simp only [drP, drPx, drPt, drR, drS, drT, bodyOf, Tryd.f64, Nat.reduceEqDiff, reduceIte, true_and, and_true] at DD
  by_cases hs : (decide (x < 0) == decide (y < 0)) = true
  · have q := same_sat (lim x.natAbs) (lim y.natAbs) hx hy
    rw [decide_eq_false (fun h => e (by
      have h1 : x.natAbs = y.natAbs := by rw [← nv_lim x.natAbs, h, nv_lim]
      have h2 : (x < 0) ↔ (y < 0) := by simpa using hs
      omega))] at q
    simp -implicitDefEqProofs only [go_sem, Nat.reduceAdd, Nat.reduceEqDiff, Nat.reduceLT, reduceIte, reduceCtorEq, Int.reduceLE, Int.reduceLT, Int.reduceEq, Int.reduceAdd, Int.reduceMul, Int.reduceSub, Nat.reduceMul, Nat.reduceSub, Nat.reducePow, Nat.reduceLeDiff, Int.reduceToNat, Tryd.f64, DD, x_app, x_ga0, x_gas, x_gan, Int.cast_ofNat_Int, eq_self, Int.zero_lt_one, Bool.not_false, Bool.not_true, beq_self_eq_true, WI, IA, DI, DA, CI, hs]
    refine callK_of false annulusref1_Same.call (q) rfl rfl (by simp [ownOK, own1, hd, fzH, fzArgs, fzCells, fz, IA, WI, DI, DA, CI, U32]) (by simp [U32, isD_u32, isD_v, isD_nil, isD_agg, IA, WI, DI, DA, CI]) ?_
    simp -implicitDefEqProofs only [go_sem, Nat.reduceAdd, Nat.reduceEqDiff, Nat.reduceLT, reduceIte, reduceCtorEq, Int.reduceLE, Int.reduceLT, Int.reduceEq, Int.reduceAdd, Int.reduceMul, Int.reduceSub, Nat.reduceMul, Nat.reduceSub, Nat.reducePow, Nat.reduceLeDiff, Int.reduceToNat, DD, x_app, x_ga0, x_gas, x_gan, Int.cast_ofNat_Int, eq_self, Int.zero_lt_one, Bool.not_false, Bool.not_true, beq_self_eq_true, WI, IA, DI, DA, CI, hs]
  · have hs : (decide (x < 0) == decide (y < 0)) = false := by simpa using hs
    simp -implicitDefEqProofs only [go_sem, Nat.reduceAdd, Nat.reduceEqDiff, Nat.reduceLT, reduceIte, reduceCtorEq, Int.reduceLE, Int.reduceLT, Int.reduceEq, Int.reduceAdd, Int.reduceMul, Int.reduceSub, Nat.reduceMul, Nat.reduceSub, Nat.reducePow, Nat.reduceLeDiff, Int.reduceToNat, Tryd.f64, DD, x_app, x_ga0, x_gas, x_gan, Int.cast_ofNat_Int, eq_self, Int.zero_lt_one, Bool.not_false, Bool.not_true, beq_self_eq_true, WI, IA, DI, DA, CI, hs]
theorem dy_eq {x y : Dyadic} (h : dexp x = dexp y) (g : dnum x = dnum y) : x = y := by rw [← dv_of x, ← dv_of y, h, g]
theorem requal4d {x y : Dyadic} (hx : DB x B) (hy : DB y C) (hB : B ≤ 20000) (hC : C ≤ 20000) : Sat CT false 17 [DI x, DI y] (Bo (decide (x = y))) := by
  refine sat_of annulusref4_Equal.ok (by simp) ?_
  have DD := annulusref4_Equal.dr
  simp only [drP, drPx, drPt, drR, drS, drT, bodyOf, Tryd.f17, Nat.reduceEqDiff, reduceIte, true_and, and_true] at DD
  by_cases he : dexp x = dexp y
  · have hx1 := hx.lim
    have hy1 := hy.lim
    have q := sameint_d (x := dnum x) (y := dnum y) (by show (lim (dnum x).natAbs).length < _; omega) (by show (lim (dnum y).natAbs).length < _; omega)
    have e : decide (x = y) = decide (dnum x = dnum y) := decide_eq_decide.2 ⟨fun h => by rw [h], fun h => dy_eq he h⟩
    rw [e]
    simp -implicitDefEqProofs only [go_sem, Nat.reduceAdd, Nat.reduceEqDiff, Nat.reduceLT, reduceIte, reduceCtorEq, Int.reduceLE, Int.reduceLT, Int.reduceEq, Int.reduceAdd, Int.reduceMul, Int.reduceSub, Nat.reduceMul, Nat.reduceSub, Nat.reducePow, Nat.reduceLeDiff, Int.reduceToNat, Tryd.f17, DD, x_app, x_ga0, x_gas, x_gan, Int.cast_ofNat_Int, eq_self, Int.zero_lt_one, Bool.not_false, Bool.not_true, beq_self_eq_true, WI, IA, DI, DA, CI, he]
    refine callK_of false annulusref1_SameInt.call (q) rfl rfl (by simp [ownOK, own1, hd, fzH, fzArgs, fzCells, fz, IA, WI, DI, DA, CI, U32]) (by simp [U32, isD_u32, isD_v, isD_nil, isD_agg, IA, WI, DI, DA, CI]) ?_
    simp -implicitDefEqProofs only [go_sem, Nat.reduceAdd, Nat.reduceEqDiff, Nat.reduceLT, reduceIte, reduceCtorEq, Int.reduceLE, Int.reduceLT, Int.reduceEq, Int.reduceAdd, Int.reduceMul, Int.reduceSub, Nat.reduceMul, Nat.reduceSub, Nat.reducePow, Nat.reduceLeDiff, Int.reduceToNat, DD, x_app, x_ga0, x_gas, x_gan, Int.cast_ofNat_Int, eq_self, Int.zero_lt_one, Bool.not_false, Bool.not_true, beq_self_eq_true, WI, IA, DI, DA, CI, he]
  · rw [decide_eq_false (fun h => he (by rw [h]))]
    simp -implicitDefEqProofs only [go_sem, Nat.reduceAdd, Nat.reduceEqDiff, Nat.reduceLT, reduceIte, reduceCtorEq, Int.reduceLE, Int.reduceLT, Int.reduceEq, Int.reduceAdd, Int.reduceMul, Int.reduceSub, Nat.reduceMul, Nat.reduceSub, Nat.reducePow, Nat.reduceLeDiff, Int.reduceToNat, Tryd.f17, DD, x_app, x_ga0, x_gas, x_gan, Int.cast_ofNat_Int, eq_self, Int.zero_lt_one, Bool.not_false, Bool.not_true, beq_self_eq_true, WI, IA, DI, DA, CI, he]
end Go.Ab

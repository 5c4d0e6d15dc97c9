/- Contracts of this seat's functions (of each call: what it answers), walked over the abstract machine, and the laws of numbers that they want. Conditions: those that each theorem states. -/
import Derived.Test.YthkpbnbbhlpkjaaDoorM2
set_option linter.unusedVariables false
set_option maxRecDepth 20000
set_option linter.unusedSimpArgs false
set_option linter.unusedSectionVars false
namespace Go.Ab
open Go.Proofs
open Cx (zero one)
attribute [-go_sem] appF newsF
variable {a b : AV} {x y r s : Dyadic} {z w c d : Cx} {B C B' C' n m : Nat}
/-! discs: of the document -/
theorem fequal_s (hc : CB c B) (hr : DB r B') (hd : CB d C) (hs : DB s C') (hB : B ≤ 20000) (hC : C ≤ 20000) (hB' : B' ≤ 20000) (hC' : C' ≤ 20000) : Sat CT false 13 [TI c r, TI d s] (Bo (decide (c = d ∧ r = s))) := by
  refine sat_of annulusref8_EqualDisc.ok (by simp) ?_
  have DD := annulusref8_EqualDisc.dr
  simp only [drP, drPx, drPt, drR, drS, drT, bodyOf, Tryd.f13, Nat.reduceEqDiff, reduceIte, true_and, and_true] at DD
  have u1 := requal8d hc hd (by omega) (by omega)
  have u2 := requal4d hr hs (by omega) (by omega)
  by_cases h1 : c = d
  · have e : decide (c = d ∧ r = s) = decide (r = s) := decide_eq_decide.2 ⟨fun h => h.2, fun h => ⟨h1, h⟩⟩
    rw [decide_eq_true h1] at u1
    rw [e]
    simp -implicitDefEqProofs only [go_sem, Nat.reduceAdd, Nat.reduceEqDiff, Nat.reduceLT, reduceIte, reduceCtorEq, Int.reduceLE, Int.reduceLT, Int.reduceEq, Int.reduceAdd, Int.reduceMul, Int.reduceSub, Nat.reduceMul, Nat.reduceSub, Nat.reducePow, Nat.reduceLeDiff, Int.reduceToNat, Tryd.f13, DD, TI, List.take_succ_cons, List.drop_succ_cons]
    refine callK_q annulusref8_Equal.call (u1) rfl rfl ?_
    simp -implicitDefEqProofs only [go_sem, Nat.reduceAdd, Nat.reduceEqDiff, Nat.reduceLT, reduceIte, reduceCtorEq, Int.reduceLE, Int.reduceLT, Int.reduceEq, Int.reduceAdd, Int.reduceMul, Int.reduceSub, Nat.reduceMul, Nat.reduceSub, Nat.reducePow, Nat.reduceLeDiff, Int.reduceToNat, DD, TI, List.take_succ_cons, List.drop_succ_cons]
    refine callK_q annulusref4_Equal.call (u2) rfl rfl ?_
    simp -implicitDefEqProofs only [go_sem, Nat.reduceAdd, Nat.reduceEqDiff, Nat.reduceLT, reduceIte, reduceCtorEq, Int.reduceLE, Int.reduceLT, Int.reduceEq, Int.reduceAdd, Int.reduceMul, Int.reduceSub, Nat.reduceMul, Nat.reduceSub, Nat.reducePow, Nat.reduceLeDiff, Int.reduceToNat, DD, TI, List.take_succ_cons, List.drop_succ_cons]
  · rw [decide_eq_false h1] at u1
    rw [decide_eq_false (show ¬ (c = d ∧ r = s) from fun h => h1 h.1)]
    simp -implicitDefEqProofs only [go_sem, Nat.reduceAdd, Nat.reduceEqDiff, Nat.reduceLT, reduceIte, reduceCtorEq, Int.reduceLE, Int.reduceLT, Int.reduceEq, Int.reduceAdd, Int.reduceMul, Int.reduceSub, Nat.reduceMul, Nat.reduceSub, Nat.reducePow, Nat.reduceLeDiff, Int.reduceToNat, Tryd.f13, DD, TI, List.take_succ_cons, List.drop_succ_cons]
    refine callK_q annulusref8_Equal.call (u1) rfl rfl ?_
    simp -implicitDefEqProofs only [go_sem, Nat.reduceAdd, Nat.reduceEqDiff, Nat.reduceLT, reduceIte, reduceCtorEq, Int.reduceLE, Int.reduceLT, Int.reduceEq, Int.reduceAdd, Int.reduceMul, Int.reduceSub, Nat.reduceMul, Nat.reduceSub, Nat.reducePow, Nat.reduceLeDiff, Int.reduceToNat, DD, TI, List.take_succ_cons, List.drop_succ_cons]
/-! rectangles: of the document -/
theorem fmn_mx (x y : Dyadic) : (0 < (dnum (x - y)).sign ∧ dmn x y = y ∧ dmx x y = x) ∨ (¬ 0 < (dnum (x - y)).sign ∧ dmn x y = x ∧ dmx x y = y) := by
  unfold dmn dmx
  by_cases h : 0 < (dnum (x - y)).sign
  · exact .inl ⟨h, if_neg (by omega), if_pos (by omega)⟩
  · refine .inr ⟨h, if_pos (by omega), ?_⟩
    by_cases g : 0 ≤ (dnum (x - y)).sign
    · rw [if_pos g]
      have e : (dnum (x - y)).sign = 0 := by omega
      have e2 : x - y = 0 := dnum_zero.1 (Int.sign_eq_zero_iff_zero.1 e)
      have : x = x - y + y := by grind
      rw [this, e2]; grind
    · rw [if_neg g]
end Go.Ab

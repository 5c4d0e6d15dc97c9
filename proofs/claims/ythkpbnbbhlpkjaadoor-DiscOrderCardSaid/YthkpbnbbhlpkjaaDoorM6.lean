/- Contracts of this seat's functions (of each call: what it answers), walked over the abstract machine, and the laws of numbers that they want. Conditions: those that each theorem states. -/
import Derived.Test.YthkpbnbbhlpkjaaDoorM5
set_option linter.unusedVariables false
set_option maxRecDepth 20000
set_option linter.unusedSimpArgs false
set_option linter.unusedSectionVars false
namespace Go.Ab
open Go.Proofs
open Cx (zero one)
attribute [-go_sem] appF newsF
variable {a b : AV} {x y r s t : Dyadic} {z w c d e : Cx} {B C B' C' n m : Nat}
/-! the laws of order and of borders -/
set_option maxHeartbeats 2000000 in
theorem discOrder_sat (X : RawT) (hX : X.ok ∧ (-9223372036854775808 ≤ X.q ∧ X.q ≤ 9223372036854775807)) (Y : RawT) (hY : Y.ok ∧ (-9223372036854775808 ≤ Y.q ∧ Y.q ≤ 9223372036854775807)) (Z : RawT) (hZ : Z.ok ∧ (-9223372036854775808 ≤ Z.q ∧ Z.q ≤ 9223372036854775807)) (n : Nat) (hn : n < 256) :
    Sat CT false 3 [.agg X.cells, .agg Y.cells, .agg Z.cells, .v (.int .u8 (n : Nat))] (Bo true) := by
  refine sat_of annuluslaw10_DiscOrder.ok (by simp) ?_
  have DD := annuluslaw10_DiscOrder.dr
  simp only [drP, drPx, drPt, drR, drS, drT, bodyOf, Tryd.f3, Nat.reduceEqDiff, reduceIte, true_and, and_true] at DD
  have k0 := known10_s
  obtain ⟨⟨xn, xl, xe, xm, xk, xf⟩, xo, xp, xq⟩ := X
  obtain ⟨⟨yn, yl, ye, ym, yk, yf⟩, yo, yp, yq⟩ := Y
  obtain ⟨⟨zn, zl, ze, zm, zk, zf⟩, zo, zp, zq⟩ := Z
  have f1 := fewD_s ⟨⟨xn, xl, xe, xm, xk, xf⟩, xo, xp, xq⟩
  have f2 := fewD_s ⟨⟨yn, yl, ye, ym, yk, yf⟩, yo, yp, yq⟩
  have f3 := fewD_s ⟨⟨zn, zl, ze, zm, zk, zf⟩, zo, zp, zq⟩
  simp only [RawT.cells, Raw.cells] at *
  have w1 : IntKind.i64.wrap ((n : Int) + 1) = (n : Int) + 1 := wrap_id (by omega)
  have w2 : IntKind.i64.wrap (n : Int) = (n : Int) := wrap_id (by omega)
  by_cases q1 : RawT.few ⟨⟨xn, xl, xe, xm, xk, xf⟩, xo, xp, xq⟩
  · rw [decide_eq_true q1] at f1
    by_cases q2 : RawT.few ⟨⟨yn, yl, ye, ym, yk, yf⟩, yo, yp, yq⟩
    · rw [decide_eq_true q2] at f2
      by_cases q3 : RawT.few ⟨⟨zn, zl, ze, zm, zk, zf⟩, zo, zp, zq⟩
      · rw [decide_eq_true q3] at f3
        have tX := RawT.rt hX.1 q1
        have tY := RawT.rt hY.1 q2
        have tZ := RawT.rt hZ.1 q3
        have rX := rp_nn (RawT.rd ⟨⟨xn, xl, xe, xm, xk, xf⟩, xo, xp, xq⟩)
        have rY := rp_nn (RawT.rd ⟨⟨yn, yl, ye, ym, yk, yf⟩, yo, yp, yq⟩)
        have rZ := rp_nn (RawT.rd ⟨⟨zn, zl, ze, zm, zk, zf⟩, zo, zp, zq⟩)
        have iXY := din_s tX tY (by decide) (by decide) (by decide) (by decide)
        have iYZ := din_s tY tZ (by decide) (by decide) (by decide) (by decide)
        have aYZ := dapart_s tY tZ (by decide) (by decide) (by decide) (by decide)
        have g := dgrow_s tX (by decide) (by decide) ((n : Int) + 1) (by omega) (by omega)
        have gn : 0 ≤ (rp (RawT.rd ⟨⟨xn, xl, xe, xm, xk, xf⟩, xo, xp, xq⟩) * dv ((n : Int) + 1) 0).toRat := nn_mul rX (by rw [← sgn_nn]; have := dnum_lt (m := (n : Int) + 1) (e := 0); omega)
        rw [rp_id gn] at g
        have bn : DB (dv ((n : Int) + 1) 0) 64 := dI_db (by omega)
        have tG := RT_T tX.cb ((rp_db tX.db).mul bn)
        have iXZ := din_s tX tZ (by decide) (by decide) (by decide) (by decide)
        have aXZ := dapart_s tX tZ (by decide) (by decide) (by decide) (by decide)
        have aXY := dapart_s tX tY (by decide) (by decide) (by decide) (by decide)
        have aYX := dapart_s tY tX (by decide) (by decide) (by decide) (by decide)
        rw [show decide (apP (Raw.z ⟨yn, yl, ye, ym, yk, yf⟩) (rp (RawT.rd ⟨⟨yn, yl, ye, ym, yk, yf⟩, yo, yp, yq⟩)) (Raw.z ⟨xn, xl, xe, xm, xk, xf⟩) (rp (RawT.rd ⟨⟨xn, xl, xe, xm, xk, xf⟩, xo, xp, xq⟩))) = decide (apP (Raw.z ⟨xn, xl, xe, xm, xk, xf⟩) (rp (RawT.rd ⟨⟨xn, xl, xe, xm, xk, xf⟩, xo, xp, xq⟩)) (Raw.z ⟨yn, yl, ye, ym, yk, yf⟩) (rp (RawT.rd ⟨⟨yn, yl, ye, ym, yk, yf⟩, yo, yp, yq⟩))) from decide_eq_decide.2 ap_symm] at aYX
        have iXX := din_s tX tX (by decide) (by decide) (by decide) (by decide)
        rw [decide_eq_true in_refl] at iXX
        have aXX := dapart_s tX tX (by decide) (by decide) (by decide) (by decide)
        rw [decide_eq_false ap_self] at aXX
        have iXG := din_s tX tG (by decide) (by decide) (by decide) (by decide)
        rw [rp_id gn, decide_eq_true (in_grow rX n)] at iXG
        unfold TI at g iXG
        have hcx := dhas_s tX (Raw.rc10 hX.1.1 q1.1) (by decide) (by decide) (by decide)
        rw [decide_eq_true has_mid] at hcx
        clear tX tY tZ tG bn hX hY hZ rY
        generalize RawT.rd ⟨⟨xn, xl, xe, xm, xk, xf⟩, xo, xp, xq⟩ = rx at *
        generalize RawT.rd ⟨⟨yn, yl, ye, ym, yk, yf⟩, yo, yp, yq⟩ = ry at *
        generalize RawT.rd ⟨⟨zn, zl, ze, zm, zk, zf⟩, zo, zp, zq⟩ = rz at *
        simp only [RawT.cells, Raw.cells] at *
        generalize Raw.z ⟨xn, xl, xe, xm, xk, xf⟩ = cx at *
        generalize Raw.z ⟨yn, yl, ye, ym, yk, yf⟩ = cy at *
        generalize Raw.z ⟨zn, zl, ze, zm, zk, zf⟩ = cz at *
        by_cases hA : inP cx (rp rx) cy (rp ry)
        · rw [decide_eq_false (in_nap rX hA)] at aXY aYX
          rw [decide_eq_true hA] at iXY
          by_cases hB : inP cy (rp ry) cz (rp rz)
          · rw [decide_eq_true hB] at iYZ
            rw [decide_eq_true (in_trans hA hB)] at iXZ
            by_cases hC : apP cy (rp ry) cz (rp rz)
            · rw [decide_eq_true hC] at aYZ
              rw [decide_eq_true (in_apart rX rZ hA hC)] at aXZ
              simp -implicitDefEqProofs only [go_sem, Nat.reduceAdd, Nat.reduceEqDiff, Nat.reduceLT, reduceIte, reduceCtorEq, Int.reduceLE, Int.reduceLT, Int.reduceEq, Int.reduceAdd, Int.reduceMul, Int.reduceSub, Nat.reduceMul, Nat.reduceSub, Nat.reducePow, Nat.reduceLeDiff, Int.reduceToNat, Tryd.f3, DD, RawT.cells, Raw.cells, TI, w1, w2, List.take_succ_cons, List.drop_succ_cons]
              refine callK_q annuluslaw10_known.call (k0) rfl rfl ?_
              simp -implicitDefEqProofs only [go_sem, Nat.reduceAdd, Nat.reduceEqDiff, Nat.reduceLT, reduceIte, reduceCtorEq, Int.reduceLE, Int.reduceLT, Int.reduceEq, Int.reduceAdd, Int.reduceMul, Int.reduceSub, Nat.reduceMul, Nat.reduceSub, Nat.reducePow, Nat.reduceLeDiff, Int.reduceToNat, DD, RawT.cells, Raw.cells, TI, w1, w2, List.take_succ_cons, List.drop_succ_cons]
              refine callK_q annuluslaw10_fewDisc.call (f1) rfl rfl ?_
              simp -implicitDefEqProofs only [go_sem, Nat.reduceAdd, Nat.reduceEqDiff, Nat.reduceLT, reduceIte, reduceCtorEq, Int.reduceLE, Int.reduceLT, Int.reduceEq, Int.reduceAdd, Int.reduceMul, Int.reduceSub, Nat.reduceMul, Nat.reduceSub, Nat.reducePow, Nat.reduceLeDiff, Int.reduceToNat, DD, RawT.cells, Raw.cells, TI, w1, w2, List.take_succ_cons, List.drop_succ_cons]
              refine callK_q annuluslaw10_fewDisc.call (f2) rfl rfl ?_
              simp -implicitDefEqProofs only [go_sem, Nat.reduceAdd, Nat.reduceEqDiff, Nat.reduceLT, reduceIte, reduceCtorEq, Int.reduceLE, Int.reduceLT, Int.reduceEq, Int.reduceAdd, Int.reduceMul, Int.reduceSub, Nat.reduceMul, Nat.reduceSub, Nat.reducePow, Nat.reduceLeDiff, Int.reduceToNat, DD, RawT.cells, Raw.cells, TI, w1, w2, List.take_succ_cons, List.drop_succ_cons]
              refine callK_q annuluslaw10_fewDisc.call (f3) rfl rfl ?_
              simp -implicitDefEqProofs only [go_sem, Nat.reduceAdd, Nat.reduceEqDiff, Nat.reduceLT, reduceIte, reduceCtorEq, Int.reduceLE, Int.reduceLT, Int.reduceEq, Int.reduceAdd, Int.reduceMul, Int.reduceSub, Nat.reduceMul, Nat.reduceSub, Nat.reducePow, Nat.reduceLeDiff, Int.reduceToNat, DD, RawT.cells, Raw.cells, TI, w1, w2, List.take_succ_cons, List.drop_succ_cons]
              refine callK_q disc_In.call (iXY) rfl rfl ?_
              simp -implicitDefEqProofs only [go_sem, Nat.reduceAdd, Nat.reduceEqDiff, Nat.reduceLT, reduceIte, reduceCtorEq, Int.reduceLE, Int.reduceLT, Int.reduceEq, Int.reduceAdd, Int.reduceMul, Int.reduceSub, Nat.reduceMul, Nat.reduceSub, Nat.reducePow, Nat.reduceLeDiff, Int.reduceToNat, DD, RawT.cells, Raw.cells, TI, w1, w2, List.take_succ_cons, List.drop_succ_cons]
              refine callK_q disc_In.call (iYZ) rfl rfl ?_
              simp -implicitDefEqProofs only [go_sem, Nat.reduceAdd, Nat.reduceEqDiff, Nat.reduceLT, reduceIte, reduceCtorEq, Int.reduceLE, Int.reduceLT, Int.reduceEq, Int.reduceAdd, Int.reduceMul, Int.reduceSub, Nat.reduceMul, Nat.reduceSub, Nat.reducePow, Nat.reduceLeDiff, Int.reduceToNat, DD, RawT.cells, Raw.cells, TI, w1, w2, List.take_succ_cons, List.drop_succ_cons]
              refine callK_q disc_Apart.call (aYZ) rfl rfl ?_
              simp -implicitDefEqProofs only [go_sem, Nat.reduceAdd, Nat.reduceEqDiff, Nat.reduceLT, reduceIte, reduceCtorEq, Int.reduceLE, Int.reduceLT, Int.reduceEq, Int.reduceAdd, Int.reduceMul, Int.reduceSub, Nat.reduceMul, Nat.reduceSub, Nat.reducePow, Nat.reduceLeDiff, Int.reduceToNat, DD, RawT.cells, Raw.cells, TI, w1, w2, List.take_succ_cons, List.drop_succ_cons]
              refine callK_q disc_Grow.call (g) rfl rfl ?_
              simp -implicitDefEqProofs only [go_sem, Nat.reduceAdd, Nat.reduceEqDiff, Nat.reduceLT, reduceIte, reduceCtorEq, Int.reduceLE, Int.reduceLT, Int.reduceEq, Int.reduceAdd, Int.reduceMul, Int.reduceSub, Nat.reduceMul, Nat.reduceSub, Nat.reducePow, Nat.reduceLeDiff, Int.reduceToNat, DD, RawT.cells, Raw.cells, TI, w1, w2, List.take_succ_cons, List.drop_succ_cons]
              refine callK_q disc_In.call (iXZ) rfl rfl ?_
              simp -implicitDefEqProofs only [go_sem, Nat.reduceAdd, Nat.reduceEqDiff, Nat.reduceLT, reduceIte, reduceCtorEq, Int.reduceLE, Int.reduceLT, Int.reduceEq, Int.reduceAdd, Int.reduceMul, Int.reduceSub, Nat.reduceMul, Nat.reduceSub, Nat.reducePow, Nat.reduceLeDiff, Int.reduceToNat, DD, RawT.cells, Raw.cells, TI, w1, w2, List.take_succ_cons, List.drop_succ_cons]
              refine callK_q disc_Apart.call (aXZ) rfl rfl ?_
              simp -implicitDefEqProofs only [go_sem, Nat.reduceAdd, Nat.reduceEqDiff, Nat.reduceLT, reduceIte, reduceCtorEq, Int.reduceLE, Int.reduceLT, Int.reduceEq, Int.reduceAdd, Int.reduceMul, Int.reduceSub, Nat.reduceMul, Nat.reduceSub, Nat.reducePow, Nat.reduceLeDiff, Int.reduceToNat, DD, RawT.cells, Raw.cells, TI, w1, w2, List.take_succ_cons, List.drop_succ_cons]
              refine callK_q disc_Apart.call (aXY) rfl rfl ?_
              simp -implicitDefEqProofs only [go_sem, Nat.reduceAdd, Nat.reduceEqDiff, Nat.reduceLT, reduceIte, reduceCtorEq, Int.reduceLE, Int.reduceLT, Int.reduceEq, Int.reduceAdd, Int.reduceMul, Int.reduceSub, Nat.reduceMul, Nat.reduceSub, Nat.reducePow, Nat.reduceLeDiff, Int.reduceToNat, DD, RawT.cells, Raw.cells, TI, w1, w2, List.take_succ_cons, List.drop_succ_cons]
              refine callK_q disc_Apart.call (aYX) rfl rfl ?_
              simp -implicitDefEqProofs only [go_sem, Nat.reduceAdd, Nat.reduceEqDiff, Nat.reduceLT, reduceIte, reduceCtorEq, Int.reduceLE, Int.reduceLT, Int.reduceEq, Int.reduceAdd, Int.reduceMul, Int.reduceSub, Nat.reduceMul, Nat.reduceSub, Nat.reducePow, Nat.reduceLeDiff, Int.reduceToNat, DD, RawT.cells, Raw.cells, TI, w1, w2, List.take_succ_cons, List.drop_succ_cons]
              refine callK_q disc_In.call (iXX) rfl rfl ?_
              simp -implicitDefEqProofs only [go_sem, Nat.reduceAdd, Nat.reduceEqDiff, Nat.reduceLT, reduceIte, reduceCtorEq, Int.reduceLE, Int.reduceLT, Int.reduceEq, Int.reduceAdd, Int.reduceMul, Int.reduceSub, Nat.reduceMul, Nat.reduceSub, Nat.reducePow, Nat.reduceLeDiff, Int.reduceToNat, DD, RawT.cells, Raw.cells, TI, w1, w2, List.take_succ_cons, List.drop_succ_cons]
              refine callK_q disc_Apart.call (aXX) rfl rfl ?_
              simp -implicitDefEqProofs only [go_sem, Nat.reduceAdd, Nat.reduceEqDiff, Nat.reduceLT, reduceIte, reduceCtorEq, Int.reduceLE, Int.reduceLT, Int.reduceEq, Int.reduceAdd, Int.reduceMul, Int.reduceSub, Nat.reduceMul, Nat.reduceSub, Nat.reducePow, Nat.reduceLeDiff, Int.reduceToNat, DD, RawT.cells, Raw.cells, TI, w1, w2, List.take_succ_cons, List.drop_succ_cons]
              refine callK_q disc_In.call (iXG) rfl rfl ?_
              simp -implicitDefEqProofs only [go_sem, Nat.reduceAdd, Nat.reduceEqDiff, Nat.reduceLT, reduceIte, reduceCtorEq, Int.reduceLE, Int.reduceLT, Int.reduceEq, Int.reduceAdd, Int.reduceMul, Int.reduceSub, Nat.reduceMul, Nat.reduceSub, Nat.reducePow, Nat.reduceLeDiff, Int.reduceToNat, DD, RawT.cells, Raw.cells, TI, w1, w2, List.take_succ_cons, List.drop_succ_cons]
              refine callK_q disc_Apart.call (aXY) rfl rfl ?_
              simp -implicitDefEqProofs only [go_sem, Nat.reduceAdd, Nat.reduceEqDiff, Nat.reduceLT, reduceIte, reduceCtorEq, Int.reduceLE, Int.reduceLT, Int.reduceEq, Int.reduceAdd, Int.reduceMul, Int.reduceSub, Nat.reduceMul, Nat.reduceSub, Nat.reducePow, Nat.reduceLeDiff, Int.reduceToNat, DD, RawT.cells, Raw.cells, TI, w1, w2, List.take_succ_cons, List.drop_succ_cons]
              refine callK_q disc_Has.call (hcx) rfl rfl ?_
              simp -implicitDefEqProofs only [go_sem, Nat.reduceAdd, Nat.reduceEqDiff, Nat.reduceLT, reduceIte, reduceCtorEq, Int.reduceLE, Int.reduceLT, Int.reduceEq, Int.reduceAdd, Int.reduceMul, Int.reduceSub, Nat.reduceMul, Nat.reduceSub, Nat.reducePow, Nat.reduceLeDiff, Int.reduceToNat, DD, RawT.cells, Raw.cells, TI, w1, w2, List.take_succ_cons, List.drop_succ_cons]
            · rw [decide_eq_false hC] at aYZ
              simp -implicitDefEqProofs only [go_sem, Nat.reduceAdd, Nat.reduceEqDiff, Nat.reduceLT, reduceIte, reduceCtorEq, Int.reduceLE, Int.reduceLT, Int.reduceEq, Int.reduceAdd, Int.reduceMul, Int.reduceSub, Nat.reduceMul, Nat.reduceSub, Nat.reducePow, Nat.reduceLeDiff, Int.reduceToNat, Tryd.f3, DD, RawT.cells, Raw.cells, TI, w1, w2, List.take_succ_cons, List.drop_succ_cons]
              refine callK_q annuluslaw10_known.call (k0) rfl rfl ?_
              simp -implicitDefEqProofs only [go_sem, Nat.reduceAdd, Nat.reduceEqDiff, Nat.reduceLT, reduceIte, reduceCtorEq, Int.reduceLE, Int.reduceLT, Int.reduceEq, Int.reduceAdd, Int.reduceMul, Int.reduceSub, Nat.reduceMul, Nat.reduceSub, Nat.reducePow, Nat.reduceLeDiff, Int.reduceToNat, DD, RawT.cells, Raw.cells, TI, w1, w2, List.take_succ_cons, List.drop_succ_cons]
              refine callK_q annuluslaw10_fewDisc.call (f1) rfl rfl ?_
              simp -implicitDefEqProofs only [go_sem, Nat.reduceAdd, Nat.reduceEqDiff, Nat.reduceLT, reduceIte, reduceCtorEq, Int.reduceLE, Int.reduceLT, Int.reduceEq, Int.reduceAdd, Int.reduceMul, Int.reduceSub, Nat.reduceMul, Nat.reduceSub, Nat.reducePow, Nat.reduceLeDiff, Int.reduceToNat, DD, RawT.cells, Raw.cells, TI, w1, w2, List.take_succ_cons, List.drop_succ_cons]
              refine callK_q annuluslaw10_fewDisc.call (f2) rfl rfl ?_
              simp -implicitDefEqProofs only [go_sem, Nat.reduceAdd, Nat.reduceEqDiff, Nat.reduceLT, reduceIte, reduceCtorEq, Int.reduceLE, Int.reduceLT, Int.reduceEq, Int.reduceAdd, Int.reduceMul, Int.reduceSub, Nat.reduceMul, Nat.reduceSub, Nat.reducePow, Nat.reduceLeDiff, Int.reduceToNat, DD, RawT.cells, Raw.cells, TI, w1, w2, List.take_succ_cons, List.drop_succ_cons]
              refine callK_q annuluslaw10_fewDisc.call (f3) rfl rfl ?_
              simp -implicitDefEqProofs only [go_sem, Nat.reduceAdd, Nat.reduceEqDiff, Nat.reduceLT, reduceIte, reduceCtorEq, Int.reduceLE, Int.reduceLT, Int.reduceEq, Int.reduceAdd, Int.reduceMul, Int.reduceSub, Nat.reduceMul, Nat.reduceSub, Nat.reducePow, Nat.reduceLeDiff, Int.reduceToNat, DD, RawT.cells, Raw.cells, TI, w1, w2, List.take_succ_cons, List.drop_succ_cons]
              refine callK_q disc_In.call (iXY) rfl rfl ?_
              simp -implicitDefEqProofs only [go_sem, Nat.reduceAdd, Nat.reduceEqDiff, Nat.reduceLT, reduceIte, reduceCtorEq, Int.reduceLE, Int.reduceLT, Int.reduceEq, Int.reduceAdd, Int.reduceMul, Int.reduceSub, Nat.reduceMul, Nat.reduceSub, Nat.reducePow, Nat.reduceLeDiff, Int.reduceToNat, DD, RawT.cells, Raw.cells, TI, w1, w2, List.take_succ_cons, List.drop_succ_cons]
              refine callK_q disc_In.call (iYZ) rfl rfl ?_
              simp -implicitDefEqProofs only [go_sem, Nat.reduceAdd, Nat.reduceEqDiff, Nat.reduceLT, reduceIte, reduceCtorEq, Int.reduceLE, Int.reduceLT, Int.reduceEq, Int.reduceAdd, Int.reduceMul, Int.reduceSub, Nat.reduceMul, Nat.reduceSub, Nat.reducePow, Nat.reduceLeDiff, Int.reduceToNat, DD, RawT.cells, Raw.cells, TI, w1, w2, List.take_succ_cons, List.drop_succ_cons]
              refine callK_q disc_Apart.call (aYZ) rfl rfl ?_
              simp -implicitDefEqProofs only [go_sem, Nat.reduceAdd, Nat.reduceEqDiff, Nat.reduceLT, reduceIte, reduceCtorEq, Int.reduceLE, Int.reduceLT, Int.reduceEq, Int.reduceAdd, Int.reduceMul, Int.reduceSub, Nat.reduceMul, Nat.reduceSub, Nat.reducePow, Nat.reduceLeDiff, Int.reduceToNat, DD, RawT.cells, Raw.cells, TI, w1, w2, List.take_succ_cons, List.drop_succ_cons]
              refine callK_q disc_Grow.call (g) rfl rfl ?_
              simp -implicitDefEqProofs only [go_sem, Nat.reduceAdd, Nat.reduceEqDiff, Nat.reduceLT, reduceIte, reduceCtorEq, Int.reduceLE, Int.reduceLT, Int.reduceEq, Int.reduceAdd, Int.reduceMul, Int.reduceSub, Nat.reduceMul, Nat.reduceSub, Nat.reducePow, Nat.reduceLeDiff, Int.reduceToNat, DD, RawT.cells, Raw.cells, TI, w1, w2, List.take_succ_cons, List.drop_succ_cons]
              refine callK_q disc_In.call (iXZ) rfl rfl ?_
              simp -implicitDefEqProofs only [go_sem, Nat.reduceAdd, Nat.reduceEqDiff, Nat.reduceLT, reduceIte, reduceCtorEq, Int.reduceLE, Int.reduceLT, Int.reduceEq, Int.reduceAdd, Int.reduceMul, Int.reduceSub, Nat.reduceMul, Nat.reduceSub, Nat.reducePow, Nat.reduceLeDiff, Int.reduceToNat, DD, RawT.cells, Raw.cells, TI, w1, w2, List.take_succ_cons, List.drop_succ_cons]
              refine callK_q disc_Apart.call (aXY) rfl rfl ?_
              simp -implicitDefEqProofs only [go_sem, Nat.reduceAdd, Nat.reduceEqDiff, Nat.reduceLT, reduceIte, reduceCtorEq, Int.reduceLE, Int.reduceLT, Int.reduceEq, Int.reduceAdd, Int.reduceMul, Int.reduceSub, Nat.reduceMul, Nat.reduceSub, Nat.reducePow, Nat.reduceLeDiff, Int.reduceToNat, DD, RawT.cells, Raw.cells, TI, w1, w2, List.take_succ_cons, List.drop_succ_cons]
              refine callK_q disc_Apart.call (aYX) rfl rfl ?_
              simp -implicitDefEqProofs only [go_sem, Nat.reduceAdd, Nat.reduceEqDiff, Nat.reduceLT, reduceIte, reduceCtorEq, Int.reduceLE, Int.reduceLT, Int.reduceEq, Int.reduceAdd, Int.reduceMul, Int.reduceSub, Nat.reduceMul, Nat.reduceSub, Nat.reducePow, Nat.reduceLeDiff, Int.reduceToNat, DD, RawT.cells, Raw.cells, TI, w1, w2, List.take_succ_cons, List.drop_succ_cons]
              refine callK_q disc_In.call (iXX) rfl rfl ?_
              simp -implicitDefEqProofs only [go_sem, Nat.reduceAdd, Nat.reduceEqDiff, Nat.reduceLT, reduceIte, reduceCtorEq, Int.reduceLE, Int.reduceLT, Int.reduceEq, Int.reduceAdd, Int.reduceMul, Int.reduceSub, Nat.reduceMul, Nat.reduceSub, Nat.reducePow, Nat.reduceLeDiff, Int.reduceToNat, DD, RawT.cells, Raw.cells, TI, w1, w2, List.take_succ_cons, List.drop_succ_cons]
              refine callK_q disc_Apart.call (aXX) rfl rfl ?_
              simp -implicitDefEqProofs only [go_sem, Nat.reduceAdd, Nat.reduceEqDiff, Nat.reduceLT, reduceIte, reduceCtorEq, Int.reduceLE, Int.reduceLT, Int.reduceEq, Int.reduceAdd, Int.reduceMul, Int.reduceSub, Nat.reduceMul, Nat.reduceSub, Nat.reducePow, Nat.reduceLeDiff, Int.reduceToNat, DD, RawT.cells, Raw.cells, TI, w1, w2, List.take_succ_cons, List.drop_succ_cons]
              refine callK_q disc_In.call (iXG) rfl rfl ?_
              simp -implicitDefEqProofs only [go_sem, Nat.reduceAdd, Nat.reduceEqDiff, Nat.reduceLT, reduceIte, reduceCtorEq, Int.reduceLE, Int.reduceLT, Int.reduceEq, Int.reduceAdd, Int.reduceMul, Int.reduceSub, Nat.reduceMul, Nat.reduceSub, Nat.reducePow, Nat.reduceLeDiff, Int.reduceToNat, DD, RawT.cells, Raw.cells, TI, w1, w2, List.take_succ_cons, List.drop_succ_cons]
              refine callK_q disc_Apart.call (aXY) rfl rfl ?_
              simp -implicitDefEqProofs only [go_sem, Nat.reduceAdd, Nat.reduceEqDiff, Nat.reduceLT, reduceIte, reduceCtorEq, Int.reduceLE, Int.reduceLT, Int.reduceEq, Int.reduceAdd, Int.reduceMul, Int.reduceSub, Nat.reduceMul, Nat.reduceSub, Nat.reducePow, Nat.reduceLeDiff, Int.reduceToNat, DD, RawT.cells, Raw.cells, TI, w1, w2, List.take_succ_cons, List.drop_succ_cons]
              refine callK_q disc_Has.call (hcx) rfl rfl ?_
              simp -implicitDefEqProofs only [go_sem, Nat.reduceAdd, Nat.reduceEqDiff, Nat.reduceLT, reduceIte, reduceCtorEq, Int.reduceLE, Int.reduceLT, Int.reduceEq, Int.reduceAdd, Int.reduceMul, Int.reduceSub, Nat.reduceMul, Nat.reduceSub, Nat.reducePow, Nat.reduceLeDiff, Int.reduceToNat, DD, RawT.cells, Raw.cells, TI, w1, w2, List.take_succ_cons, List.drop_succ_cons]
          · rw [decide_eq_false hB] at iYZ
            by_cases hC : apP cy (rp ry) cz (rp rz)
            · rw [decide_eq_true hC] at aYZ
              rw [decide_eq_true (in_apart rX rZ hA hC)] at aXZ
              simp -implicitDefEqProofs only [go_sem, Nat.reduceAdd, Nat.reduceEqDiff, Nat.reduceLT, reduceIte, reduceCtorEq, Int.reduceLE, Int.reduceLT, Int.reduceEq, Int.reduceAdd, Int.reduceMul, Int.reduceSub, Nat.reduceMul, Nat.reduceSub, Nat.reducePow, Nat.reduceLeDiff, Int.reduceToNat, Tryd.f3, DD, RawT.cells, Raw.cells, TI, w1, w2, List.take_succ_cons, List.drop_succ_cons]
              refine callK_q annuluslaw10_known.call (k0) rfl rfl ?_
              simp -implicitDefEqProofs only [go_sem, Nat.reduceAdd, Nat.reduceEqDiff, Nat.reduceLT, reduceIte, reduceCtorEq, Int.reduceLE, Int.reduceLT, Int.reduceEq, Int.reduceAdd, Int.reduceMul, Int.reduceSub, Nat.reduceMul, Nat.reduceSub, Nat.reducePow, Nat.reduceLeDiff, Int.reduceToNat, DD, RawT.cells, Raw.cells, TI, w1, w2, List.take_succ_cons, List.drop_succ_cons]
              refine callK_q annuluslaw10_fewDisc.call (f1) rfl rfl ?_
              simp -implicitDefEqProofs only [go_sem, Nat.reduceAdd, Nat.reduceEqDiff, Nat.reduceLT, reduceIte, reduceCtorEq, Int.reduceLE, Int.reduceLT, Int.reduceEq, Int.reduceAdd, Int.reduceMul, Int.reduceSub, Nat.reduceMul, Nat.reduceSub, Nat.reducePow, Nat.reduceLeDiff, Int.reduceToNat, DD, RawT.cells, Raw.cells, TI, w1, w2, List.take_succ_cons, List.drop_succ_cons]
              refine callK_q annuluslaw10_fewDisc.call (f2) rfl rfl ?_
              simp -implicitDefEqProofs only [go_sem, Nat.reduceAdd, Nat.reduceEqDiff, Nat.reduceLT, reduceIte, reduceCtorEq, Int.reduceLE, Int.reduceLT, Int.reduceEq, Int.reduceAdd, Int.reduceMul, Int.reduceSub, Nat.reduceMul, Nat.reduceSub, Nat.reducePow, Nat.reduceLeDiff, Int.reduceToNat, DD, RawT.cells, Raw.cells, TI, w1, w2, List.take_succ_cons, List.drop_succ_cons]
              refine callK_q annuluslaw10_fewDisc.call (f3) rfl rfl ?_
              simp -implicitDefEqProofs only [go_sem, Nat.reduceAdd, Nat.reduceEqDiff, Nat.reduceLT, reduceIte, reduceCtorEq, Int.reduceLE, Int.reduceLT, Int.reduceEq, Int.reduceAdd, Int.reduceMul, Int.reduceSub, Nat.reduceMul, Nat.reduceSub, Nat.reducePow, Nat.reduceLeDiff, Int.reduceToNat, DD, RawT.cells, Raw.cells, TI, w1, w2, List.take_succ_cons, List.drop_succ_cons]
              refine callK_q disc_In.call (iXY) rfl rfl ?_
              simp -implicitDefEqProofs only [go_sem, Nat.reduceAdd, Nat.reduceEqDiff, Nat.reduceLT, reduceIte, reduceCtorEq, Int.reduceLE, Int.reduceLT, Int.reduceEq, Int.reduceAdd, Int.reduceMul, Int.reduceSub, Nat.reduceMul, Nat.reduceSub, Nat.reducePow, Nat.reduceLeDiff, Int.reduceToNat, DD, RawT.cells, Raw.cells, TI, w1, w2, List.take_succ_cons, List.drop_succ_cons]
              refine callK_q disc_In.call (iYZ) rfl rfl ?_
              simp -implicitDefEqProofs only [go_sem, Nat.reduceAdd, Nat.reduceEqDiff, Nat.reduceLT, reduceIte, reduceCtorEq, Int.reduceLE, Int.reduceLT, Int.reduceEq, Int.reduceAdd, Int.reduceMul, Int.reduceSub, Nat.reduceMul, Nat.reduceSub, Nat.reducePow, Nat.reduceLeDiff, Int.reduceToNat, DD, RawT.cells, Raw.cells, TI, w1, w2, List.take_succ_cons, List.drop_succ_cons]
              refine callK_q disc_Apart.call (aYZ) rfl rfl ?_
              simp -implicitDefEqProofs only [go_sem, Nat.reduceAdd, Nat.reduceEqDiff, Nat.reduceLT, reduceIte, reduceCtorEq, Int.reduceLE, Int.reduceLT, Int.reduceEq, Int.reduceAdd, Int.reduceMul, Int.reduceSub, Nat.reduceMul, Nat.reduceSub, Nat.reducePow, Nat.reduceLeDiff, Int.reduceToNat, DD, RawT.cells, Raw.cells, TI, w1, w2, List.take_succ_cons, List.drop_succ_cons]
              refine callK_q disc_Grow.call (g) rfl rfl ?_
              simp -implicitDefEqProofs only [go_sem, Nat.reduceAdd, Nat.reduceEqDiff, Nat.reduceLT, reduceIte, reduceCtorEq, Int.reduceLE, Int.reduceLT, Int.reduceEq, Int.reduceAdd, Int.reduceMul, Int.reduceSub, Nat.reduceMul, Nat.reduceSub, Nat.reducePow, Nat.reduceLeDiff, Int.reduceToNat, DD, RawT.cells, Raw.cells, TI, w1, w2, List.take_succ_cons, List.drop_succ_cons]
              refine callK_q disc_Apart.call (aXZ) rfl rfl ?_
              simp -implicitDefEqProofs only [go_sem, Nat.reduceAdd, Nat.reduceEqDiff, Nat.reduceLT, reduceIte, reduceCtorEq, Int.reduceLE, Int.reduceLT, Int.reduceEq, Int.reduceAdd, Int.reduceMul, Int.reduceSub, Nat.reduceMul, Nat.reduceSub, Nat.reducePow, Nat.reduceLeDiff, Int.reduceToNat, DD, RawT.cells, Raw.cells, TI, w1, w2, List.take_succ_cons, List.drop_succ_cons]
              refine callK_q disc_Apart.call (aXY) rfl rfl ?_
              simp -implicitDefEqProofs only [go_sem, Nat.reduceAdd, Nat.reduceEqDiff, Nat.reduceLT, reduceIte, reduceCtorEq, Int.reduceLE, Int.reduceLT, Int.reduceEq, Int.reduceAdd, Int.reduceMul, Int.reduceSub, Nat.reduceMul, Nat.reduceSub, Nat.reducePow, Nat.reduceLeDiff, Int.reduceToNat, DD, RawT.cells, Raw.cells, TI, w1, w2, List.take_succ_cons, List.drop_succ_cons]
              refine callK_q disc_Apart.call (aYX) rfl rfl ?_
              simp -implicitDefEqProofs only [go_sem, Nat.reduceAdd, Nat.reduceEqDiff, Nat.reduceLT, reduceIte, reduceCtorEq, Int.reduceLE, Int.reduceLT, Int.reduceEq, Int.reduceAdd, Int.reduceMul, Int.reduceSub, Nat.reduceMul, Nat.reduceSub, Nat.reducePow, Nat.reduceLeDiff, Int.reduceToNat, DD, RawT.cells, Raw.cells, TI, w1, w2, List.take_succ_cons, List.drop_succ_cons]
              refine callK_q disc_In.call (iXX) rfl rfl ?_
              simp -implicitDefEqProofs only [go_sem, Nat.reduceAdd, Nat.reduceEqDiff, Nat.reduceLT, reduceIte, reduceCtorEq, Int.reduceLE, Int.reduceLT, Int.reduceEq, Int.reduceAdd, Int.reduceMul, Int.reduceSub, Nat.reduceMul, Nat.reduceSub, Nat.reducePow, Nat.reduceLeDiff, Int.reduceToNat, DD, RawT.cells, Raw.cells, TI, w1, w2, List.take_succ_cons, List.drop_succ_cons]
              refine callK_q disc_Apart.call (aXX) rfl rfl ?_
              simp -implicitDefEqProofs only [go_sem, Nat.reduceAdd, Nat.reduceEqDiff, Nat.reduceLT, reduceIte, reduceCtorEq, Int.reduceLE, Int.reduceLT, Int.reduceEq, Int.reduceAdd, Int.reduceMul, Int.reduceSub, Nat.reduceMul, Nat.reduceSub, Nat.reducePow, Nat.reduceLeDiff, Int.reduceToNat, DD, RawT.cells, Raw.cells, TI, w1, w2, List.take_succ_cons, List.drop_succ_cons]
              refine callK_q disc_In.call (iXG) rfl rfl ?_
              simp -implicitDefEqProofs only [go_sem, Nat.reduceAdd, Nat.reduceEqDiff, Nat.reduceLT, reduceIte, reduceCtorEq, Int.reduceLE, Int.reduceLT, Int.reduceEq, Int.reduceAdd, Int.reduceMul, Int.reduceSub, Nat.reduceMul, Nat.reduceSub, Nat.reducePow, Nat.reduceLeDiff, Int.reduceToNat, DD, RawT.cells, Raw.cells, TI, w1, w2, List.take_succ_cons, List.drop_succ_cons]
              refine callK_q disc_Apart.call (aXY) rfl rfl ?_
              simp -implicitDefEqProofs only [go_sem, Nat.reduceAdd, Nat.reduceEqDiff, Nat.reduceLT, reduceIte, reduceCtorEq, Int.reduceLE, Int.reduceLT, Int.reduceEq, Int.reduceAdd, Int.reduceMul, Int.reduceSub, Nat.reduceMul, Nat.reduceSub, Nat.reducePow, Nat.reduceLeDiff, Int.reduceToNat, DD, RawT.cells, Raw.cells, TI, w1, w2, List.take_succ_cons, List.drop_succ_cons]
              refine callK_q disc_Has.call (hcx) rfl rfl ?_
              simp -implicitDefEqProofs only [go_sem, Nat.reduceAdd, Nat.reduceEqDiff, Nat.reduceLT, reduceIte, reduceCtorEq, Int.reduceLE, Int.reduceLT, Int.reduceEq, Int.reduceAdd, Int.reduceMul, Int.reduceSub, Nat.reduceMul, Nat.reduceSub, Nat.reducePow, Nat.reduceLeDiff, Int.reduceToNat, DD, RawT.cells, Raw.cells, TI, w1, w2, List.take_succ_cons, List.drop_succ_cons]
            · rw [decide_eq_false hC] at aYZ
              simp -implicitDefEqProofs only [go_sem, Nat.reduceAdd, Nat.reduceEqDiff, Nat.reduceLT, reduceIte, reduceCtorEq, Int.reduceLE, Int.reduceLT, Int.reduceEq, Int.reduceAdd, Int.reduceMul, Int.reduceSub, Nat.reduceMul, Nat.reduceSub, Nat.reducePow, Nat.reduceLeDiff, Int.reduceToNat, Tryd.f3, DD, RawT.cells, Raw.cells, TI, w1, w2, List.take_succ_cons, List.drop_succ_cons]
              refine callK_q annuluslaw10_known.call (k0) rfl rfl ?_
              simp -implicitDefEqProofs only [go_sem, Nat.reduceAdd, Nat.reduceEqDiff, Nat.reduceLT, reduceIte, reduceCtorEq, Int.reduceLE, Int.reduceLT, Int.reduceEq, Int.reduceAdd, Int.reduceMul, Int.reduceSub, Nat.reduceMul, Nat.reduceSub, Nat.reducePow, Nat.reduceLeDiff, Int.reduceToNat, DD, RawT.cells, Raw.cells, TI, w1, w2, List.take_succ_cons, List.drop_succ_cons]
              refine callK_q annuluslaw10_fewDisc.call (f1) rfl rfl ?_
              simp -implicitDefEqProofs only [go_sem, Nat.reduceAdd, Nat.reduceEqDiff, Nat.reduceLT, reduceIte, reduceCtorEq, Int.reduceLE, Int.reduceLT, Int.reduceEq, Int.reduceAdd, Int.reduceMul, Int.reduceSub, Nat.reduceMul, Nat.reduceSub, Nat.reducePow, Nat.reduceLeDiff, Int.reduceToNat, DD, RawT.cells, Raw.cells, TI, w1, w2, List.take_succ_cons, List.drop_succ_cons]
              refine callK_q annuluslaw10_fewDisc.call (f2) rfl rfl ?_
              simp -implicitDefEqProofs only [go_sem, Nat.reduceAdd, Nat.reduceEqDiff, Nat.reduceLT, reduceIte, reduceCtorEq, Int.reduceLE, Int.reduceLT, Int.reduceEq, Int.reduceAdd, Int.reduceMul, Int.reduceSub, Nat.reduceMul, Nat.reduceSub, Nat.reducePow, Nat.reduceLeDiff, Int.reduceToNat, DD, RawT.cells, Raw.cells, TI, w1, w2, List.take_succ_cons, List.drop_succ_cons]
              refine callK_q annuluslaw10_fewDisc.call (f3) rfl rfl ?_
              simp -implicitDefEqProofs only [go_sem, Nat.reduceAdd, Nat.reduceEqDiff, Nat.reduceLT, reduceIte, reduceCtorEq, Int.reduceLE, Int.reduceLT, Int.reduceEq, Int.reduceAdd, Int.reduceMul, Int.reduceSub, Nat.reduceMul, Nat.reduceSub, Nat.reducePow, Nat.reduceLeDiff, Int.reduceToNat, DD, RawT.cells, Raw.cells, TI, w1, w2, List.take_succ_cons, List.drop_succ_cons]
              refine callK_q disc_In.call (iXY) rfl rfl ?_
              simp -implicitDefEqProofs only [go_sem, Nat.reduceAdd, Nat.reduceEqDiff, Nat.reduceLT, reduceIte, reduceCtorEq, Int.reduceLE, Int.reduceLT, Int.reduceEq, Int.reduceAdd, Int.reduceMul, Int.reduceSub, Nat.reduceMul, Nat.reduceSub, Nat.reducePow, Nat.reduceLeDiff, Int.reduceToNat, DD, RawT.cells, Raw.cells, TI, w1, w2, List.take_succ_cons, List.drop_succ_cons]
              refine callK_q disc_In.call (iYZ) rfl rfl ?_
              simp -implicitDefEqProofs only [go_sem, Nat.reduceAdd, Nat.reduceEqDiff, Nat.reduceLT, reduceIte, reduceCtorEq, Int.reduceLE, Int.reduceLT, Int.reduceEq, Int.reduceAdd, Int.reduceMul, Int.reduceSub, Nat.reduceMul, Nat.reduceSub, Nat.reducePow, Nat.reduceLeDiff, Int.reduceToNat, DD, RawT.cells, Raw.cells, TI, w1, w2, List.take_succ_cons, List.drop_succ_cons]
              refine callK_q disc_Apart.call (aYZ) rfl rfl ?_
              simp -implicitDefEqProofs only [go_sem, Nat.reduceAdd, Nat.reduceEqDiff, Nat.reduceLT, reduceIte, reduceCtorEq, Int.reduceLE, Int.reduceLT, Int.reduceEq, Int.reduceAdd, Int.reduceMul, Int.reduceSub, Nat.reduceMul, Nat.reduceSub, Nat.reducePow, Nat.reduceLeDiff, Int.reduceToNat, DD, RawT.cells, Raw.cells, TI, w1, w2, List.take_succ_cons, List.drop_succ_cons]
              refine callK_q disc_Grow.call (g) rfl rfl ?_
              simp -implicitDefEqProofs only [go_sem, Nat.reduceAdd, Nat.reduceEqDiff, Nat.reduceLT, reduceIte, reduceCtorEq, Int.reduceLE, Int.reduceLT, Int.reduceEq, Int.reduceAdd, Int.reduceMul, Int.reduceSub, Nat.reduceMul, Nat.reduceSub, Nat.reducePow, Nat.reduceLeDiff, Int.reduceToNat, DD, RawT.cells, Raw.cells, TI, w1, w2, List.take_succ_cons, List.drop_succ_cons]
              refine callK_q disc_Apart.call (aXY) rfl rfl ?_
              simp -implicitDefEqProofs only [go_sem, Nat.reduceAdd, Nat.reduceEqDiff, Nat.reduceLT, reduceIte, reduceCtorEq, Int.reduceLE, Int.reduceLT, Int.reduceEq, Int.reduceAdd, Int.reduceMul, Int.reduceSub, Nat.reduceMul, Nat.reduceSub, Nat.reducePow, Nat.reduceLeDiff, Int.reduceToNat, DD, RawT.cells, Raw.cells, TI, w1, w2, List.take_succ_cons, List.drop_succ_cons]
              refine callK_q disc_Apart.call (aYX) rfl rfl ?_
              simp -implicitDefEqProofs only [go_sem, Nat.reduceAdd, Nat.reduceEqDiff, Nat.reduceLT, reduceIte, reduceCtorEq, Int.reduceLE, Int.reduceLT, Int.reduceEq, Int.reduceAdd, Int.reduceMul, Int.reduceSub, Nat.reduceMul, Nat.reduceSub, Nat.reducePow, Nat.reduceLeDiff, Int.reduceToNat, DD, RawT.cells, Raw.cells, TI, w1, w2, List.take_succ_cons, List.drop_succ_cons]
              refine callK_q disc_In.call (iXX) rfl rfl ?_
              simp -implicitDefEqProofs only [go_sem, Nat.reduceAdd, Nat.reduceEqDiff, Nat.reduceLT, reduceIte, reduceCtorEq, Int.reduceLE, Int.reduceLT, Int.reduceEq, Int.reduceAdd, Int.reduceMul, Int.reduceSub, Nat.reduceMul, Nat.reduceSub, Nat.reducePow, Nat.reduceLeDiff, Int.reduceToNat, DD, RawT.cells, Raw.cells, TI, w1, w2, List.take_succ_cons, List.drop_succ_cons]
              refine callK_q disc_Apart.call (aXX) rfl rfl ?_
              simp -implicitDefEqProofs only [go_sem, Nat.reduceAdd, Nat.reduceEqDiff, Nat.reduceLT, reduceIte, reduceCtorEq, Int.reduceLE, Int.reduceLT, Int.reduceEq, Int.reduceAdd, Int.reduceMul, Int.reduceSub, Nat.reduceMul, Nat.reduceSub, Nat.reducePow, Nat.reduceLeDiff, Int.reduceToNat, DD, RawT.cells, Raw.cells, TI, w1, w2, List.take_succ_cons, List.drop_succ_cons]
              refine callK_q disc_In.call (iXG) rfl rfl ?_
              simp -implicitDefEqProofs only [go_sem, Nat.reduceAdd, Nat.reduceEqDiff, Nat.reduceLT, reduceIte, reduceCtorEq, Int.reduceLE, Int.reduceLT, Int.reduceEq, Int.reduceAdd, Int.reduceMul, Int.reduceSub, Nat.reduceMul, Nat.reduceSub, Nat.reducePow, Nat.reduceLeDiff, Int.reduceToNat, DD, RawT.cells, Raw.cells, TI, w1, w2, List.take_succ_cons, List.drop_succ_cons]
              refine callK_q disc_Apart.call (aXY) rfl rfl ?_
              simp -implicitDefEqProofs only [go_sem, Nat.reduceAdd, Nat.reduceEqDiff, Nat.reduceLT, reduceIte, reduceCtorEq, Int.reduceLE, Int.reduceLT, Int.reduceEq, Int.reduceAdd, Int.reduceMul, Int.reduceSub, Nat.reduceMul, Nat.reduceSub, Nat.reducePow, Nat.reduceLeDiff, Int.reduceToNat, DD, RawT.cells, Raw.cells, TI, w1, w2, List.take_succ_cons, List.drop_succ_cons]
              refine callK_q disc_Has.call (hcx) rfl rfl ?_
              simp -implicitDefEqProofs only [go_sem, Nat.reduceAdd, Nat.reduceEqDiff, Nat.reduceLT, reduceIte, reduceCtorEq, Int.reduceLE, Int.reduceLT, Int.reduceEq, Int.reduceAdd, Int.reduceMul, Int.reduceSub, Nat.reduceMul, Nat.reduceSub, Nat.reducePow, Nat.reduceLeDiff, Int.reduceToNat, DD, RawT.cells, Raw.cells, TI, w1, w2, List.take_succ_cons, List.drop_succ_cons]
        · rw [decide_eq_false hA] at iXY
          simp -implicitDefEqProofs only [go_sem, Nat.reduceAdd, Nat.reduceEqDiff, Nat.reduceLT, reduceIte, reduceCtorEq, Int.reduceLE, Int.reduceLT, Int.reduceEq, Int.reduceAdd, Int.reduceMul, Int.reduceSub, Nat.reduceMul, Nat.reduceSub, Nat.reducePow, Nat.reduceLeDiff, Int.reduceToNat, Tryd.f3, DD, RawT.cells, Raw.cells, TI, w1, w2, List.take_succ_cons, List.drop_succ_cons]
          refine callK_q annuluslaw10_known.call (k0) rfl rfl ?_
          simp -implicitDefEqProofs only [go_sem, Nat.reduceAdd, Nat.reduceEqDiff, Nat.reduceLT, reduceIte, reduceCtorEq, Int.reduceLE, Int.reduceLT, Int.reduceEq, Int.reduceAdd, Int.reduceMul, Int.reduceSub, Nat.reduceMul, Nat.reduceSub, Nat.reducePow, Nat.reduceLeDiff, Int.reduceToNat, DD, RawT.cells, Raw.cells, TI, w1, w2, List.take_succ_cons, List.drop_succ_cons]
          refine callK_q annuluslaw10_fewDisc.call (f1) rfl rfl ?_
          simp -implicitDefEqProofs only [go_sem, Nat.reduceAdd, Nat.reduceEqDiff, Nat.reduceLT, reduceIte, reduceCtorEq, Int.reduceLE, Int.reduceLT, Int.reduceEq, Int.reduceAdd, Int.reduceMul, Int.reduceSub, Nat.reduceMul, Nat.reduceSub, Nat.reducePow, Nat.reduceLeDiff, Int.reduceToNat, DD, RawT.cells, Raw.cells, TI, w1, w2, List.take_succ_cons, List.drop_succ_cons]
          refine callK_q annuluslaw10_fewDisc.call (f2) rfl rfl ?_
          simp -implicitDefEqProofs only [go_sem, Nat.reduceAdd, Nat.reduceEqDiff, Nat.reduceLT, reduceIte, reduceCtorEq, Int.reduceLE, Int.reduceLT, Int.reduceEq, Int.reduceAdd, Int.reduceMul, Int.reduceSub, Nat.reduceMul, Nat.reduceSub, Nat.reducePow, Nat.reduceLeDiff, Int.reduceToNat, DD, RawT.cells, Raw.cells, TI, w1, w2, List.take_succ_cons, List.drop_succ_cons]
          refine callK_q annuluslaw10_fewDisc.call (f3) rfl rfl ?_
          simp -implicitDefEqProofs only [go_sem, Nat.reduceAdd, Nat.reduceEqDiff, Nat.reduceLT, reduceIte, reduceCtorEq, Int.reduceLE, Int.reduceLT, Int.reduceEq, Int.reduceAdd, Int.reduceMul, Int.reduceSub, Nat.reduceMul, Nat.reduceSub, Nat.reducePow, Nat.reduceLeDiff, Int.reduceToNat, DD, RawT.cells, Raw.cells, TI, w1, w2, List.take_succ_cons, List.drop_succ_cons]
          refine callK_q disc_In.call (iXY) rfl rfl ?_
          simp -implicitDefEqProofs only [go_sem, Nat.reduceAdd, Nat.reduceEqDiff, Nat.reduceLT, reduceIte, reduceCtorEq, Int.reduceLE, Int.reduceLT, Int.reduceEq, Int.reduceAdd, Int.reduceMul, Int.reduceSub, Nat.reduceMul, Nat.reduceSub, Nat.reducePow, Nat.reduceLeDiff, Int.reduceToNat, DD, RawT.cells, Raw.cells, TI, w1, w2, List.take_succ_cons, List.drop_succ_cons]
          refine callK_q disc_In.call (iYZ) rfl rfl ?_
          simp -implicitDefEqProofs only [go_sem, Nat.reduceAdd, Nat.reduceEqDiff, Nat.reduceLT, reduceIte, reduceCtorEq, Int.reduceLE, Int.reduceLT, Int.reduceEq, Int.reduceAdd, Int.reduceMul, Int.reduceSub, Nat.reduceMul, Nat.reduceSub, Nat.reducePow, Nat.reduceLeDiff, Int.reduceToNat, DD, RawT.cells, Raw.cells, TI, w1, w2, List.take_succ_cons, List.drop_succ_cons]
          refine callK_q disc_Apart.call (aYZ) rfl rfl ?_
          simp -implicitDefEqProofs only [go_sem, Nat.reduceAdd, Nat.reduceEqDiff, Nat.reduceLT, reduceIte, reduceCtorEq, Int.reduceLE, Int.reduceLT, Int.reduceEq, Int.reduceAdd, Int.reduceMul, Int.reduceSub, Nat.reduceMul, Nat.reduceSub, Nat.reducePow, Nat.reduceLeDiff, Int.reduceToNat, DD, RawT.cells, Raw.cells, TI, w1, w2, List.take_succ_cons, List.drop_succ_cons]
          refine callK_q disc_Grow.call (g) rfl rfl ?_
          simp -implicitDefEqProofs only [go_sem, Nat.reduceAdd, Nat.reduceEqDiff, Nat.reduceLT, reduceIte, reduceCtorEq, Int.reduceLE, Int.reduceLT, Int.reduceEq, Int.reduceAdd, Int.reduceMul, Int.reduceSub, Nat.reduceMul, Nat.reduceSub, Nat.reducePow, Nat.reduceLeDiff, Int.reduceToNat, DD, RawT.cells, Raw.cells, TI, w1, w2, List.take_succ_cons, List.drop_succ_cons]
          refine callK_q disc_Apart.call (aXY) rfl rfl ?_
          simp -implicitDefEqProofs only [go_sem, Nat.reduceAdd, Nat.reduceEqDiff, Nat.reduceLT, reduceIte, reduceCtorEq, Int.reduceLE, Int.reduceLT, Int.reduceEq, Int.reduceAdd, Int.reduceMul, Int.reduceSub, Nat.reduceMul, Nat.reduceSub, Nat.reducePow, Nat.reduceLeDiff, Int.reduceToNat, DD, RawT.cells, Raw.cells, TI, w1, w2, List.take_succ_cons, List.drop_succ_cons]
          refine callK_q disc_Apart.call (aYX) rfl rfl ?_
          simp -implicitDefEqProofs only [go_sem, Nat.reduceAdd, Nat.reduceEqDiff, Nat.reduceLT, reduceIte, reduceCtorEq, Int.reduceLE, Int.reduceLT, Int.reduceEq, Int.reduceAdd, Int.reduceMul, Int.reduceSub, Nat.reduceMul, Nat.reduceSub, Nat.reducePow, Nat.reduceLeDiff, Int.reduceToNat, DD, RawT.cells, Raw.cells, TI, w1, w2, List.take_succ_cons, List.drop_succ_cons]
          refine callK_q disc_In.call (iXX) rfl rfl ?_
          simp -implicitDefEqProofs only [go_sem, Nat.reduceAdd, Nat.reduceEqDiff, Nat.reduceLT, reduceIte, reduceCtorEq, Int.reduceLE, Int.reduceLT, Int.reduceEq, Int.reduceAdd, Int.reduceMul, Int.reduceSub, Nat.reduceMul, Nat.reduceSub, Nat.reducePow, Nat.reduceLeDiff, Int.reduceToNat, DD, RawT.cells, Raw.cells, TI, w1, w2, List.take_succ_cons, List.drop_succ_cons]
          refine callK_q disc_Apart.call (aXX) rfl rfl ?_
          simp -implicitDefEqProofs only [go_sem, Nat.reduceAdd, Nat.reduceEqDiff, Nat.reduceLT, reduceIte, reduceCtorEq, Int.reduceLE, Int.reduceLT, Int.reduceEq, Int.reduceAdd, Int.reduceMul, Int.reduceSub, Nat.reduceMul, Nat.reduceSub, Nat.reducePow, Nat.reduceLeDiff, Int.reduceToNat, DD, RawT.cells, Raw.cells, TI, w1, w2, List.take_succ_cons, List.drop_succ_cons]
          refine callK_q disc_In.call (iXG) rfl rfl ?_
          simp -implicitDefEqProofs only [go_sem, Nat.reduceAdd, Nat.reduceEqDiff, Nat.reduceLT, reduceIte, reduceCtorEq, Int.reduceLE, Int.reduceLT, Int.reduceEq, Int.reduceAdd, Int.reduceMul, Int.reduceSub, Nat.reduceMul, Nat.reduceSub, Nat.reducePow, Nat.reduceLeDiff, Int.reduceToNat, DD, RawT.cells, Raw.cells, TI, w1, w2, List.take_succ_cons, List.drop_succ_cons]
          refine callK_q disc_Has.call (hcx) rfl rfl ?_
          simp -implicitDefEqProofs only [go_sem, Nat.reduceAdd, Nat.reduceEqDiff, Nat.reduceLT, reduceIte, reduceCtorEq, Int.reduceLE, Int.reduceLT, Int.reduceEq, Int.reduceAdd, Int.reduceMul, Int.reduceSub, Nat.reduceMul, Nat.reduceSub, Nat.reducePow, Nat.reduceLeDiff, Int.reduceToNat, DD, RawT.cells, Raw.cells, TI, w1, w2, List.take_succ_cons, List.drop_succ_cons]
      · rw [decide_eq_false q3] at f3
        simp -implicitDefEqProofs only [go_sem, Nat.reduceAdd, Nat.reduceEqDiff, Nat.reduceLT, reduceIte, reduceCtorEq, Int.reduceLE, Int.reduceLT, Int.reduceEq, Int.reduceAdd, Int.reduceMul, Int.reduceSub, Nat.reduceMul, Nat.reduceSub, Nat.reducePow, Nat.reduceLeDiff, Int.reduceToNat, Tryd.f3, DD, List.take_succ_cons, List.drop_succ_cons]
        refine callK_q annuluslaw10_known.call (k0) rfl rfl ?_
        simp -implicitDefEqProofs only [go_sem, Nat.reduceAdd, Nat.reduceEqDiff, Nat.reduceLT, reduceIte, reduceCtorEq, Int.reduceLE, Int.reduceLT, Int.reduceEq, Int.reduceAdd, Int.reduceMul, Int.reduceSub, Nat.reduceMul, Nat.reduceSub, Nat.reducePow, Nat.reduceLeDiff, Int.reduceToNat, DD, List.take_succ_cons, List.drop_succ_cons]
        refine callK_q annuluslaw10_fewDisc.call (f1) rfl rfl ?_
        simp -implicitDefEqProofs only [go_sem, Nat.reduceAdd, Nat.reduceEqDiff, Nat.reduceLT, reduceIte, reduceCtorEq, Int.reduceLE, Int.reduceLT, Int.reduceEq, Int.reduceAdd, Int.reduceMul, Int.reduceSub, Nat.reduceMul, Nat.reduceSub, Nat.reducePow, Nat.reduceLeDiff, Int.reduceToNat, DD, List.take_succ_cons, List.drop_succ_cons]
        refine callK_q annuluslaw10_fewDisc.call (f2) rfl rfl ?_
        simp -implicitDefEqProofs only [go_sem, Nat.reduceAdd, Nat.reduceEqDiff, Nat.reduceLT, reduceIte, reduceCtorEq, Int.reduceLE, Int.reduceLT, Int.reduceEq, Int.reduceAdd, Int.reduceMul, Int.reduceSub, Nat.reduceMul, Nat.reduceSub, Nat.reducePow, Nat.reduceLeDiff, Int.reduceToNat, DD, List.take_succ_cons, List.drop_succ_cons]
        refine callK_q annuluslaw10_fewDisc.call (f3) rfl rfl ?_
        simp -implicitDefEqProofs only [go_sem, Nat.reduceAdd, Nat.reduceEqDiff, Nat.reduceLT, reduceIte, reduceCtorEq, Int.reduceLE, Int.reduceLT, Int.reduceEq, Int.reduceAdd, Int.reduceMul, Int.reduceSub, Nat.reduceMul, Nat.reduceSub, Nat.reducePow, Nat.reduceLeDiff, Int.reduceToNat, DD, List.take_succ_cons, List.drop_succ_cons]
    · rw [decide_eq_false q2] at f2
      simp -implicitDefEqProofs only [go_sem, Nat.reduceAdd, Nat.reduceEqDiff, Nat.reduceLT, reduceIte, reduceCtorEq, Int.reduceLE, Int.reduceLT, Int.reduceEq, Int.reduceAdd, Int.reduceMul, Int.reduceSub, Nat.reduceMul, Nat.reduceSub, Nat.reducePow, Nat.reduceLeDiff, Int.reduceToNat, Tryd.f3, DD, List.take_succ_cons, List.drop_succ_cons]
      refine callK_q annuluslaw10_known.call (k0) rfl rfl ?_
      simp -implicitDefEqProofs only [go_sem, Nat.reduceAdd, Nat.reduceEqDiff, Nat.reduceLT, reduceIte, reduceCtorEq, Int.reduceLE, Int.reduceLT, Int.reduceEq, Int.reduceAdd, Int.reduceMul, Int.reduceSub, Nat.reduceMul, Nat.reduceSub, Nat.reducePow, Nat.reduceLeDiff, Int.reduceToNat, DD, List.take_succ_cons, List.drop_succ_cons]
      refine callK_q annuluslaw10_fewDisc.call (f1) rfl rfl ?_
      simp -implicitDefEqProofs only [go_sem, Nat.reduceAdd, Nat.reduceEqDiff, Nat.reduceLT, reduceIte, reduceCtorEq, Int.reduceLE, Int.reduceLT, Int.reduceEq, Int.reduceAdd, Int.reduceMul, Int.reduceSub, Nat.reduceMul, Nat.reduceSub, Nat.reducePow, Nat.reduceLeDiff, Int.reduceToNat, DD, List.take_succ_cons, List.drop_succ_cons]
      refine callK_q annuluslaw10_fewDisc.call (f2) rfl rfl ?_
      simp -implicitDefEqProofs only [go_sem, Nat.reduceAdd, Nat.reduceEqDiff, Nat.reduceLT, reduceIte, reduceCtorEq, Int.reduceLE, Int.reduceLT, Int.reduceEq, Int.reduceAdd, Int.reduceMul, Int.reduceSub, Nat.reduceMul, Nat.reduceSub, Nat.reducePow, Nat.reduceLeDiff, Int.reduceToNat, DD, List.take_succ_cons, List.drop_succ_cons]
  · rw [decide_eq_false q1] at f1
    simp -implicitDefEqProofs only [go_sem, Nat.reduceAdd, Nat.reduceEqDiff, Nat.reduceLT, reduceIte, reduceCtorEq, Int.reduceLE, Int.reduceLT, Int.reduceEq, Int.reduceAdd, Int.reduceMul, Int.reduceSub, Nat.reduceMul, Nat.reduceSub, Nat.reducePow, Nat.reduceLeDiff, Int.reduceToNat, Tryd.f3, DD, List.take_succ_cons, List.drop_succ_cons]
    refine callK_q annuluslaw10_known.call (k0) rfl rfl ?_
    simp -implicitDefEqProofs only [go_sem, Nat.reduceAdd, Nat.reduceEqDiff, Nat.reduceLT, reduceIte, reduceCtorEq, Int.reduceLE, Int.reduceLT, Int.reduceEq, Int.reduceAdd, Int.reduceMul, Int.reduceSub, Nat.reduceMul, Nat.reduceSub, Nat.reducePow, Nat.reduceLeDiff, Int.reduceToNat, DD, List.take_succ_cons, List.drop_succ_cons]
    refine callK_q annuluslaw10_fewDisc.call (f1) rfl rfl ?_
    simp -implicitDefEqProofs only [go_sem, Nat.reduceAdd, Nat.reduceEqDiff, Nat.reduceLT, reduceIte, reduceCtorEq, Int.reduceLE, Int.reduceLT, Int.reduceEq, Int.reduceAdd, Int.reduceMul, Int.reduceSub, Nat.reduceMul, Nat.reduceSub, Nat.reducePow, Nat.reduceLeDiff, Int.reduceToNat, DD, List.take_succ_cons, List.drop_succ_cons]
end Go.Ab

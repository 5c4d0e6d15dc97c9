/- Contracts of this seat's functions (of each call: what it answers), walked over the abstract machine, and the laws of numbers that they want. Conditions: those that each theorem states. -/
import Derived.Test.YtdkdpebfnddfpaaDoorRC
set_option linter.unusedVariables false
set_option maxRecDepth 20000
set_option linter.unusedSimpArgs false
set_option linter.unusedSectionVars false
namespace Go.Ab
open Go.Proofs

set_option maxRecDepth 100000 in
set_option maxHeartbeats 4000000 in
theorem quotExact_sat (n : Bool) (l : List Nat) (e : Int) (hl : Lm l) (n' : Bool) (l' : List Nat) (e' : Int) (hl' : Lm l') : Sat CT false 6 [DA n l e, DA n' l' e'] (Bo true) := by
  refine sat_of annuluslaw6_QuotExact.ok (by simp) ?_
  have DD := annuluslaw6_QuotExact.dr
  simp only [drP, drPx, drPt, drR, drS, drT, bodyOf, Tryd.f6, Nat.reduceEqDiff, reduceIte, true_and, and_true] at DD
  have kn := known6_s
  have w1 := few6_s n l e
  have w2 := few6_s n' l' e'
  by_cases g1 : 6 < (l.length : Int)
  · skip
    simp -implicitDefEqProofs only [go_sem, Nat.reduceAdd, Nat.reduceEqDiff, Nat.reduceLT, reduceIte, reduceCtorEq, Int.reduceLE, Int.reduceLT, Int.reduceEq, Int.reduceAdd, Int.reduceMul, Int.reduceSub, Nat.reduceMul, Nat.reduceSub, Nat.reducePow, Nat.reduceLeDiff, Int.reduceToNat, Tryd.f6, DD, g1, gt_iff_lt]
    refine callK_q annuluslaw6_known.call (kn) rfl rfl ?_
    simp -implicitDefEqProofs only [go_sem, Nat.reduceAdd, Nat.reduceEqDiff, Nat.reduceLT, reduceIte, reduceCtorEq, Int.reduceLE, Int.reduceLT, Int.reduceEq, Int.reduceAdd, Int.reduceMul, Int.reduceSub, Nat.reduceMul, Nat.reduceSub, Nat.reducePow, Nat.reduceLeDiff, Int.reduceToNat, DD, g1, gt_iff_lt]
  by_cases g2 : 6 < (l'.length : Int)
  · skip
    simp -implicitDefEqProofs only [go_sem, Nat.reduceAdd, Nat.reduceEqDiff, Nat.reduceLT, reduceIte, reduceCtorEq, Int.reduceLE, Int.reduceLT, Int.reduceEq, Int.reduceAdd, Int.reduceMul, Int.reduceSub, Nat.reduceMul, Nat.reduceSub, Nat.reducePow, Nat.reduceLeDiff, Int.reduceToNat, Tryd.f6, DD, g1, g2, gt_iff_lt]
    refine callK_q annuluslaw6_known.call (kn) rfl rfl ?_
    simp -implicitDefEqProofs only [go_sem, Nat.reduceAdd, Nat.reduceEqDiff, Nat.reduceLT, reduceIte, reduceCtorEq, Int.reduceLE, Int.reduceLT, Int.reduceEq, Int.reduceAdd, Int.reduceMul, Int.reduceSub, Nat.reduceMul, Nat.reduceSub, Nat.reducePow, Nat.reduceLeDiff, Int.reduceToNat, DD, g1, g2, gt_iff_lt]
  by_cases hf : l.length ≤ 20 ∧ -2000 ≤ e ∧ e ≤ 2000
  · by_cases hf' : l'.length ≤ 20 ∧ -2000 ≤ e' ∧ e' ≤ 2000
    · rw [decide_eq_true hf] at w1
      rw [decide_eq_true hf'] at w2
      obtain ⟨r1, x1⟩ := rd_raw6 (n := n) hl (by omega) hf.2.1 hf.2.2
      obtain ⟨r2, y1⟩ := rd_raw6 (n := n') hl' (by omega) hf'.2.1 hf'.2.2
      generalize dv (iv n l) e = x at *
      generalize dv (iv n' l') e' = y at *
      have dx := r1.db
      have dy := r2.db
      have sy := dsign_r r2 (by decide)
      by_cases hy : y = 0
      · have c0 := sg_zero hy
        simp -implicitDefEqProofs only [go_sem, Nat.reduceAdd, Nat.reduceEqDiff, Nat.reduceLT, reduceIte, reduceCtorEq, Int.reduceLE, Int.reduceLT, Int.reduceEq, Int.reduceAdd, Int.reduceMul, Int.reduceSub, Nat.reduceMul, Nat.reduceSub, Nat.reducePow, Nat.reduceLeDiff, Int.reduceToNat, Tryd.f6, DD, g1, g2, c0, gt_iff_lt]
        refine callK_q annuluslaw6_known.call (kn) rfl rfl ?_
        simp -implicitDefEqProofs only [go_sem, Nat.reduceAdd, Nat.reduceEqDiff, Nat.reduceLT, reduceIte, reduceCtorEq, Int.reduceLE, Int.reduceLT, Int.reduceEq, Int.reduceAdd, Int.reduceMul, Int.reduceSub, Nat.reduceMul, Nat.reduceSub, Nat.reducePow, Nat.reduceLeDiff, Int.reduceToNat, DD, g1, g2, c0, gt_iff_lt]
        refine callK_q annuluslaw6_few.call (w1) rfl rfl ?_
        simp -implicitDefEqProofs only [go_sem, Nat.reduceAdd, Nat.reduceEqDiff, Nat.reduceLT, reduceIte, reduceCtorEq, Int.reduceLE, Int.reduceLT, Int.reduceEq, Int.reduceAdd, Int.reduceMul, Int.reduceSub, Nat.reduceMul, Nat.reduceSub, Nat.reducePow, Nat.reduceLeDiff, Int.reduceToNat, DD, g1, g2, c0, gt_iff_lt]
        refine callK_q annuluslaw6_few.call (w2) rfl rfl ?_
        simp -implicitDefEqProofs only [go_sem, Nat.reduceAdd, Nat.reduceEqDiff, Nat.reduceLT, reduceIte, reduceCtorEq, Int.reduceLE, Int.reduceLT, Int.reduceEq, Int.reduceAdd, Int.reduceMul, Int.reduceSub, Nat.reduceMul, Nat.reduceSub, Nat.reducePow, Nat.reduceLeDiff, Int.reduceToNat, DD, g1, g2, c0, gt_iff_lt]
        refine callK_q dyad_Sign.call (sy) rfl rfl ?_
        simp -implicitDefEqProofs only [go_sem, Nat.reduceAdd, Nat.reduceEqDiff, Nat.reduceLT, reduceIte, reduceCtorEq, Int.reduceLE, Int.reduceLT, Int.reduceEq, Int.reduceAdd, Int.reduceMul, Int.reduceSub, Nat.reduceMul, Nat.reduceSub, Nat.reducePow, Nat.reduceLeDiff, Int.reduceToNat, DD, g1, g2, c0, gt_iff_lt]
      · have c0 := sg_ne hy
        have hxy : DB (x * y) 4384 := dx.mul dy
        have hxx : DB (x * x) 4384 := dx.mul dx
        have u1 := dmul_r r1 r2 (by decide) (by decide)
        have u2 := dmul_r r1 r1 (by decide) (by decide)
        have a1 := dabs_r r1 (by decide)
        by_cases hx : x = 0
        · have zy : x * y = 0 := by rw [hx]; grind
          have zx : x * x = 0 := by rw [hx]; grind
          have d1 := qdiv_x0 (RD_D hxy) r2 zy hy (by decide) (by decide) 200 1
          have d2 := qdiv_x0 (RD_D hxy) r2 zy hy (by decide) (by decide) 200 0
          have zn : dnum (x * x) ≤ 0 := by rw [zx]; decide
          have t1 := qroot_n (RD_D hxx) zn (by decide) 200 0
          have t2 := qroot_n (RD_D hxx) zn (by decide) 200 1
          rw [if_pos (show dnum (x * x) = 0 by rw [zx]; rfl)] at t1 t2
          have s1 := dsame_r rd0 r1 (by decide) (by decide)
          have s2 := dsame_r rd0 (RD_D (show DB (dab x) 0 by rw [hx, dab_0]; exact DB.zero 0)) (by decide) (by decide)
          have s3 := dsame_r rd0 rd0 (by decide) (by decide)
          rw [decide_eq_true hx.symm] at s1
          rw [decide_eq_true (show 0 = dab x by rw [hx, dab_0])] at s2
          rw [decide_eq_true rfl] at s3
          simp -implicitDefEqProofs only [go_sem, Nat.reduceAdd, Nat.reduceEqDiff, Nat.reduceLT, reduceIte, reduceCtorEq, Int.reduceLE, Int.reduceLT, Int.reduceEq, Int.reduceAdd, Int.reduceMul, Int.reduceSub, Nat.reduceMul, Nat.reduceSub, Nat.reducePow, Nat.reduceLeDiff, Int.reduceToNat, Tryd.f6, DD, g1, g2, c0, gt_iff_lt, QZ]
          refine callK_q annuluslaw6_known.call (kn) rfl rfl ?_
          simp -implicitDefEqProofs only [go_sem, Nat.reduceAdd, Nat.reduceEqDiff, Nat.reduceLT, reduceIte, reduceCtorEq, Int.reduceLE, Int.reduceLT, Int.reduceEq, Int.reduceAdd, Int.reduceMul, Int.reduceSub, Nat.reduceMul, Nat.reduceSub, Nat.reducePow, Nat.reduceLeDiff, Int.reduceToNat, DD, g1, g2, c0, gt_iff_lt, QZ]
          refine callK_q annuluslaw6_few.call (w1) rfl rfl ?_
          simp -implicitDefEqProofs only [go_sem, Nat.reduceAdd, Nat.reduceEqDiff, Nat.reduceLT, reduceIte, reduceCtorEq, Int.reduceLE, Int.reduceLT, Int.reduceEq, Int.reduceAdd, Int.reduceMul, Int.reduceSub, Nat.reduceMul, Nat.reduceSub, Nat.reducePow, Nat.reduceLeDiff, Int.reduceToNat, DD, g1, g2, c0, gt_iff_lt, QZ]
          refine callK_q annuluslaw6_few.call (w2) rfl rfl ?_
          simp -implicitDefEqProofs only [go_sem, Nat.reduceAdd, Nat.reduceEqDiff, Nat.reduceLT, reduceIte, reduceCtorEq, Int.reduceLE, Int.reduceLT, Int.reduceEq, Int.reduceAdd, Int.reduceMul, Int.reduceSub, Nat.reduceMul, Nat.reduceSub, Nat.reducePow, Nat.reduceLeDiff, Int.reduceToNat, DD, g1, g2, c0, gt_iff_lt, QZ]
          refine callK_q dyad_Sign.call (sy) rfl rfl ?_
          simp -implicitDefEqProofs only [go_sem, Nat.reduceAdd, Nat.reduceEqDiff, Nat.reduceLT, reduceIte, reduceCtorEq, Int.reduceLE, Int.reduceLT, Int.reduceEq, Int.reduceAdd, Int.reduceMul, Int.reduceSub, Nat.reduceMul, Nat.reduceSub, Nat.reducePow, Nat.reduceLeDiff, Int.reduceToNat, DD, g1, g2, c0, gt_iff_lt, QZ]
          refine callK_q dyad_Mul.call (u1) rfl rfl ?_
          simp -implicitDefEqProofs only [go_sem, Nat.reduceAdd, Nat.reduceEqDiff, Nat.reduceLT, reduceIte, reduceCtorEq, Int.reduceLE, Int.reduceLT, Int.reduceEq, Int.reduceAdd, Int.reduceMul, Int.reduceSub, Nat.reduceMul, Nat.reduceSub, Nat.reducePow, Nat.reduceLeDiff, Int.reduceToNat, DD, g1, g2, c0, gt_iff_lt, QZ]
          refine callK_q quot_Div.call (d1) rfl rfl ?_
          simp -implicitDefEqProofs only [go_sem, Nat.reduceAdd, Nat.reduceEqDiff, Nat.reduceLT, reduceIte, reduceCtorEq, Int.reduceLE, Int.reduceLT, Int.reduceEq, Int.reduceAdd, Int.reduceMul, Int.reduceSub, Nat.reduceMul, Nat.reduceSub, Nat.reducePow, Nat.reduceLeDiff, Int.reduceToNat, DD, g1, g2, c0, gt_iff_lt, QZ]
          refine callK_q dyad_Mul.call (u1) rfl rfl ?_
          simp -implicitDefEqProofs only [go_sem, Nat.reduceAdd, Nat.reduceEqDiff, Nat.reduceLT, reduceIte, reduceCtorEq, Int.reduceLE, Int.reduceLT, Int.reduceEq, Int.reduceAdd, Int.reduceMul, Int.reduceSub, Nat.reduceMul, Nat.reduceSub, Nat.reducePow, Nat.reduceLeDiff, Int.reduceToNat, DD, g1, g2, c0, gt_iff_lt, QZ]
          refine callK_q quot_Div.call (d2) rfl rfl ?_
          simp -implicitDefEqProofs only [go_sem, Nat.reduceAdd, Nat.reduceEqDiff, Nat.reduceLT, reduceIte, reduceCtorEq, Int.reduceLE, Int.reduceLT, Int.reduceEq, Int.reduceAdd, Int.reduceMul, Int.reduceSub, Nat.reduceMul, Nat.reduceSub, Nat.reducePow, Nat.reduceLeDiff, Int.reduceToNat, DD, g1, g2, c0, gt_iff_lt, QZ]
          refine callK_q dyad_Mul.call (u2) rfl rfl ?_
          simp -implicitDefEqProofs only [go_sem, Nat.reduceAdd, Nat.reduceEqDiff, Nat.reduceLT, reduceIte, reduceCtorEq, Int.reduceLE, Int.reduceLT, Int.reduceEq, Int.reduceAdd, Int.reduceMul, Int.reduceSub, Nat.reduceMul, Nat.reduceSub, Nat.reducePow, Nat.reduceLeDiff, Int.reduceToNat, DD, g1, g2, c0, gt_iff_lt, QZ]
          refine callK_q quot_Root.call (t1) rfl rfl ?_
          simp -implicitDefEqProofs only [go_sem, Nat.reduceAdd, Nat.reduceEqDiff, Nat.reduceLT, reduceIte, reduceCtorEq, Int.reduceLE, Int.reduceLT, Int.reduceEq, Int.reduceAdd, Int.reduceMul, Int.reduceSub, Nat.reduceMul, Nat.reduceSub, Nat.reducePow, Nat.reduceLeDiff, Int.reduceToNat, DD, g1, g2, c0, gt_iff_lt, QZ]
          refine callK_q dyad_Mul.call (u2) rfl rfl ?_
          simp -implicitDefEqProofs only [go_sem, Nat.reduceAdd, Nat.reduceEqDiff, Nat.reduceLT, reduceIte, reduceCtorEq, Int.reduceLE, Int.reduceLT, Int.reduceEq, Int.reduceAdd, Int.reduceMul, Int.reduceSub, Nat.reduceMul, Nat.reduceSub, Nat.reducePow, Nat.reduceLeDiff, Int.reduceToNat, DD, g1, g2, c0, gt_iff_lt, QZ]
          refine callK_q quot_Root.call (t2) rfl rfl ?_
          simp -implicitDefEqProofs only [go_sem, Nat.reduceAdd, Nat.reduceEqDiff, Nat.reduceLT, reduceIte, reduceCtorEq, Int.reduceLE, Int.reduceLT, Int.reduceEq, Int.reduceAdd, Int.reduceMul, Int.reduceSub, Nat.reduceMul, Nat.reduceSub, Nat.reducePow, Nat.reduceLeDiff, Int.reduceToNat, DD, g1, g2, c0, gt_iff_lt, QZ]
          refine callK_q dyad_Same.call (s1) rfl rfl ?_
          simp -implicitDefEqProofs only [go_sem, Nat.reduceAdd, Nat.reduceEqDiff, Nat.reduceLT, reduceIte, reduceCtorEq, Int.reduceLE, Int.reduceLT, Int.reduceEq, Int.reduceAdd, Int.reduceMul, Int.reduceSub, Nat.reduceMul, Nat.reduceSub, Nat.reducePow, Nat.reduceLeDiff, Int.reduceToNat, DD, g1, g2, c0, gt_iff_lt, QZ]
          refine callK_q dyad_Same.call (s1) rfl rfl ?_
          simp -implicitDefEqProofs only [go_sem, Nat.reduceAdd, Nat.reduceEqDiff, Nat.reduceLT, reduceIte, reduceCtorEq, Int.reduceLE, Int.reduceLT, Int.reduceEq, Int.reduceAdd, Int.reduceMul, Int.reduceSub, Nat.reduceMul, Nat.reduceSub, Nat.reducePow, Nat.reduceLeDiff, Int.reduceToNat, DD, g1, g2, c0, gt_iff_lt, QZ]
          refine callK_q dyad_Abs.call (a1) rfl rfl ?_
          simp -implicitDefEqProofs only [go_sem, Nat.reduceAdd, Nat.reduceEqDiff, Nat.reduceLT, reduceIte, reduceCtorEq, Int.reduceLE, Int.reduceLT, Int.reduceEq, Int.reduceAdd, Int.reduceMul, Int.reduceSub, Nat.reduceMul, Nat.reduceSub, Nat.reducePow, Nat.reduceLeDiff, Int.reduceToNat, DD, g1, g2, c0, gt_iff_lt, QZ]
          refine callK_q dyad_Same.call (s2) rfl rfl ?_
          simp -implicitDefEqProofs only [go_sem, Nat.reduceAdd, Nat.reduceEqDiff, Nat.reduceLT, reduceIte, reduceCtorEq, Int.reduceLE, Int.reduceLT, Int.reduceEq, Int.reduceAdd, Int.reduceMul, Int.reduceSub, Nat.reduceMul, Nat.reduceSub, Nat.reducePow, Nat.reduceLeDiff, Int.reduceToNat, DD, g1, g2, c0, gt_iff_lt, QZ]
          refine callK_q dyad_Same.call (s3) rfl rfl ?_
          simp -implicitDefEqProofs only [go_sem, Nat.reduceAdd, Nat.reduceEqDiff, Nat.reduceLT, reduceIte, reduceCtorEq, Int.reduceLE, Int.reduceLT, Int.reduceEq, Int.reduceAdd, Int.reduceMul, Int.reduceSub, Nat.reduceMul, Nat.reduceSub, Nat.reducePow, Nat.reduceLeDiff, Int.reduceToNat, DD, g1, g2, c0, gt_iff_lt, QZ]
        · have d1 := qdiv_ok (RD_D hxy) r2 (mul_ne hx hy) hy (by decide) (by decide) 200 1
          have d2 := qdiv_ok (RD_D hxy) r2 (mul_ne hx hy) hy (by decide) (by decide) 200 0
          rw [show heldP 200 = 200 from rfl] at d1 d2
          rw [show decide ((1 : Int) = 1) = true from rfl, dquo_exact hx hy (by decide) (Nat.le_trans x1 (by decide))] at d1
          rw [show decide ((0 : Int) = 1) = false from rfl, dquo_exact hx hy (by decide) (Nat.le_trans x1 (by decide))] at d2
          obtain ⟨ab, ap, aa, an⟩ := dab_ok dx hx
          have xp : 0 < dnum (x * x) := by
            have h := dsg_mul x x
            rw [dsg_sq hx] at h
            exact Int.sign_eq_one_iff_pos.1 h
          have t1 := qroot_ok (RD_D hxx) xp (by decide) 200 0
          have t2 := qroot_ok (RD_D hxx) xp (by decide) 200 1
          rw [show heldP 200 = 200 from rfl, ← aa] at t1 t2
          rw [show decide ((0 : Int) = 1) = false from rfl, droot_exact ap (by decide) (Nat.le_trans (by rw [an]; exact x1) (by decide)), aa] at t1
          rw [show decide ((1 : Int) = 1) = true from rfl, droot_exact ap (by decide) (Nat.le_trans (by rw [an]; exact x1) (by decide)), aa] at t2
          have s1 := dsame_r (RD_D dx) r1 (by decide) (by decide)
          have s2 := dsame_r (RD_D ab) (RD_D ab) (by decide) (by decide)
          rw [decide_eq_true rfl] at s1 s2
          have s3 := s2
          simp -implicitDefEqProofs only [go_sem, Nat.reduceAdd, Nat.reduceEqDiff, Nat.reduceLT, reduceIte, reduceCtorEq, Int.reduceLE, Int.reduceLT, Int.reduceEq, Int.reduceAdd, Int.reduceMul, Int.reduceSub, Nat.reduceMul, Nat.reduceSub, Nat.reducePow, Nat.reduceLeDiff, Int.reduceToNat, Tryd.f6, DD, g1, g2, c0, gt_iff_lt]
          refine callK_q annuluslaw6_known.call (kn) rfl rfl ?_
          simp -implicitDefEqProofs only [go_sem, Nat.reduceAdd, Nat.reduceEqDiff, Nat.reduceLT, reduceIte, reduceCtorEq, Int.reduceLE, Int.reduceLT, Int.reduceEq, Int.reduceAdd, Int.reduceMul, Int.reduceSub, Nat.reduceMul, Nat.reduceSub, Nat.reducePow, Nat.reduceLeDiff, Int.reduceToNat, DD, g1, g2, c0, gt_iff_lt]
          refine callK_q annuluslaw6_few.call (w1) rfl rfl ?_
          simp -implicitDefEqProofs only [go_sem, Nat.reduceAdd, Nat.reduceEqDiff, Nat.reduceLT, reduceIte, reduceCtorEq, Int.reduceLE, Int.reduceLT, Int.reduceEq, Int.reduceAdd, Int.reduceMul, Int.reduceSub, Nat.reduceMul, Nat.reduceSub, Nat.reducePow, Nat.reduceLeDiff, Int.reduceToNat, DD, g1, g2, c0, gt_iff_lt]
          refine callK_q annuluslaw6_few.call (w2) rfl rfl ?_
          simp -implicitDefEqProofs only [go_sem, Nat.reduceAdd, Nat.reduceEqDiff, Nat.reduceLT, reduceIte, reduceCtorEq, Int.reduceLE, Int.reduceLT, Int.reduceEq, Int.reduceAdd, Int.reduceMul, Int.reduceSub, Nat.reduceMul, Nat.reduceSub, Nat.reducePow, Nat.reduceLeDiff, Int.reduceToNat, DD, g1, g2, c0, gt_iff_lt]
          refine callK_q dyad_Sign.call (sy) rfl rfl ?_
          simp -implicitDefEqProofs only [go_sem, Nat.reduceAdd, Nat.reduceEqDiff, Nat.reduceLT, reduceIte, reduceCtorEq, Int.reduceLE, Int.reduceLT, Int.reduceEq, Int.reduceAdd, Int.reduceMul, Int.reduceSub, Nat.reduceMul, Nat.reduceSub, Nat.reducePow, Nat.reduceLeDiff, Int.reduceToNat, DD, g1, g2, c0, gt_iff_lt]
          refine callK_q dyad_Mul.call (u1) rfl rfl ?_
          simp -implicitDefEqProofs only [go_sem, Nat.reduceAdd, Nat.reduceEqDiff, Nat.reduceLT, reduceIte, reduceCtorEq, Int.reduceLE, Int.reduceLT, Int.reduceEq, Int.reduceAdd, Int.reduceMul, Int.reduceSub, Nat.reduceMul, Nat.reduceSub, Nat.reducePow, Nat.reduceLeDiff, Int.reduceToNat, DD, g1, g2, c0, gt_iff_lt]
          refine callK_q quot_Div.call (d1) rfl rfl ?_
          simp -implicitDefEqProofs only [go_sem, Nat.reduceAdd, Nat.reduceEqDiff, Nat.reduceLT, reduceIte, reduceCtorEq, Int.reduceLE, Int.reduceLT, Int.reduceEq, Int.reduceAdd, Int.reduceMul, Int.reduceSub, Nat.reduceMul, Nat.reduceSub, Nat.reducePow, Nat.reduceLeDiff, Int.reduceToNat, DD, g1, g2, c0, gt_iff_lt]
          refine callK_q dyad_Mul.call (u1) rfl rfl ?_
          simp -implicitDefEqProofs only [go_sem, Nat.reduceAdd, Nat.reduceEqDiff, Nat.reduceLT, reduceIte, reduceCtorEq, Int.reduceLE, Int.reduceLT, Int.reduceEq, Int.reduceAdd, Int.reduceMul, Int.reduceSub, Nat.reduceMul, Nat.reduceSub, Nat.reducePow, Nat.reduceLeDiff, Int.reduceToNat, DD, g1, g2, c0, gt_iff_lt]
          refine callK_q quot_Div.call (d2) rfl rfl ?_
          simp -implicitDefEqProofs only [go_sem, Nat.reduceAdd, Nat.reduceEqDiff, Nat.reduceLT, reduceIte, reduceCtorEq, Int.reduceLE, Int.reduceLT, Int.reduceEq, Int.reduceAdd, Int.reduceMul, Int.reduceSub, Nat.reduceMul, Nat.reduceSub, Nat.reducePow, Nat.reduceLeDiff, Int.reduceToNat, DD, g1, g2, c0, gt_iff_lt]
          refine callK_q dyad_Mul.call (u2) rfl rfl ?_
          simp -implicitDefEqProofs only [go_sem, Nat.reduceAdd, Nat.reduceEqDiff, Nat.reduceLT, reduceIte, reduceCtorEq, Int.reduceLE, Int.reduceLT, Int.reduceEq, Int.reduceAdd, Int.reduceMul, Int.reduceSub, Nat.reduceMul, Nat.reduceSub, Nat.reducePow, Nat.reduceLeDiff, Int.reduceToNat, DD, g1, g2, c0, gt_iff_lt]
          refine callK_q quot_Root.call (t1) rfl rfl ?_
          simp -implicitDefEqProofs only [go_sem, Nat.reduceAdd, Nat.reduceEqDiff, Nat.reduceLT, reduceIte, reduceCtorEq, Int.reduceLE, Int.reduceLT, Int.reduceEq, Int.reduceAdd, Int.reduceMul, Int.reduceSub, Nat.reduceMul, Nat.reduceSub, Nat.reducePow, Nat.reduceLeDiff, Int.reduceToNat, DD, g1, g2, c0, gt_iff_lt]
          refine callK_q dyad_Mul.call (u2) rfl rfl ?_
          simp -implicitDefEqProofs only [go_sem, Nat.reduceAdd, Nat.reduceEqDiff, Nat.reduceLT, reduceIte, reduceCtorEq, Int.reduceLE, Int.reduceLT, Int.reduceEq, Int.reduceAdd, Int.reduceMul, Int.reduceSub, Nat.reduceMul, Nat.reduceSub, Nat.reducePow, Nat.reduceLeDiff, Int.reduceToNat, DD, g1, g2, c0, gt_iff_lt]
          refine callK_q quot_Root.call (t2) rfl rfl ?_
          simp -implicitDefEqProofs only [go_sem, Nat.reduceAdd, Nat.reduceEqDiff, Nat.reduceLT, reduceIte, reduceCtorEq, Int.reduceLE, Int.reduceLT, Int.reduceEq, Int.reduceAdd, Int.reduceMul, Int.reduceSub, Nat.reduceMul, Nat.reduceSub, Nat.reducePow, Nat.reduceLeDiff, Int.reduceToNat, DD, g1, g2, c0, gt_iff_lt]
          refine callK_q dyad_Same.call (s1) rfl rfl ?_
          simp -implicitDefEqProofs only [go_sem, Nat.reduceAdd, Nat.reduceEqDiff, Nat.reduceLT, reduceIte, reduceCtorEq, Int.reduceLE, Int.reduceLT, Int.reduceEq, Int.reduceAdd, Int.reduceMul, Int.reduceSub, Nat.reduceMul, Nat.reduceSub, Nat.reducePow, Nat.reduceLeDiff, Int.reduceToNat, DD, g1, g2, c0, gt_iff_lt]
          refine callK_q dyad_Same.call (s1) rfl rfl ?_
          simp -implicitDefEqProofs only [go_sem, Nat.reduceAdd, Nat.reduceEqDiff, Nat.reduceLT, reduceIte, reduceCtorEq, Int.reduceLE, Int.reduceLT, Int.reduceEq, Int.reduceAdd, Int.reduceMul, Int.reduceSub, Nat.reduceMul, Nat.reduceSub, Nat.reducePow, Nat.reduceLeDiff, Int.reduceToNat, DD, g1, g2, c0, gt_iff_lt]
          refine callK_q dyad_Abs.call (a1) rfl rfl ?_
          simp -implicitDefEqProofs only [go_sem, Nat.reduceAdd, Nat.reduceEqDiff, Nat.reduceLT, reduceIte, reduceCtorEq, Int.reduceLE, Int.reduceLT, Int.reduceEq, Int.reduceAdd, Int.reduceMul, Int.reduceSub, Nat.reduceMul, Nat.reduceSub, Nat.reducePow, Nat.reduceLeDiff, Int.reduceToNat, DD, g1, g2, c0, gt_iff_lt]
          refine callK_q dyad_Same.call (s2) rfl rfl ?_
          simp -implicitDefEqProofs only [go_sem, Nat.reduceAdd, Nat.reduceEqDiff, Nat.reduceLT, reduceIte, reduceCtorEq, Int.reduceLE, Int.reduceLT, Int.reduceEq, Int.reduceAdd, Int.reduceMul, Int.reduceSub, Nat.reduceMul, Nat.reduceSub, Nat.reducePow, Nat.reduceLeDiff, Int.reduceToNat, DD, g1, g2, c0, gt_iff_lt]
          refine callK_q dyad_Same.call (s3) rfl rfl ?_
          simp -implicitDefEqProofs only [go_sem, Nat.reduceAdd, Nat.reduceEqDiff, Nat.reduceLT, reduceIte, reduceCtorEq, Int.reduceLE, Int.reduceLT, Int.reduceEq, Int.reduceAdd, Int.reduceMul, Int.reduceSub, Nat.reduceMul, Nat.reduceSub, Nat.reducePow, Nat.reduceLeDiff, Int.reduceToNat, DD, g1, g2, c0, gt_iff_lt]
    · rw [decide_eq_true hf] at w1
      rw [decide_eq_false hf'] at w2
      simp -implicitDefEqProofs only [go_sem, Nat.reduceAdd, Nat.reduceEqDiff, Nat.reduceLT, reduceIte, reduceCtorEq, Int.reduceLE, Int.reduceLT, Int.reduceEq, Int.reduceAdd, Int.reduceMul, Int.reduceSub, Nat.reduceMul, Nat.reduceSub, Nat.reducePow, Nat.reduceLeDiff, Int.reduceToNat, Tryd.f6, DD, g1, g2, gt_iff_lt]
      refine callK_q annuluslaw6_known.call (kn) rfl rfl ?_
      simp -implicitDefEqProofs only [go_sem, Nat.reduceAdd, Nat.reduceEqDiff, Nat.reduceLT, reduceIte, reduceCtorEq, Int.reduceLE, Int.reduceLT, Int.reduceEq, Int.reduceAdd, Int.reduceMul, Int.reduceSub, Nat.reduceMul, Nat.reduceSub, Nat.reducePow, Nat.reduceLeDiff, Int.reduceToNat, DD, g1, g2, gt_iff_lt]
      refine callK_q annuluslaw6_few.call (w1) rfl rfl ?_
      simp -implicitDefEqProofs only [go_sem, Nat.reduceAdd, Nat.reduceEqDiff, Nat.reduceLT, reduceIte, reduceCtorEq, Int.reduceLE, Int.reduceLT, Int.reduceEq, Int.reduceAdd, Int.reduceMul, Int.reduceSub, Nat.reduceMul, Nat.reduceSub, Nat.reducePow, Nat.reduceLeDiff, Int.reduceToNat, DD, g1, g2, gt_iff_lt]
      refine callK_q annuluslaw6_few.call (w2) rfl rfl ?_
      simp -implicitDefEqProofs only [go_sem, Nat.reduceAdd, Nat.reduceEqDiff, Nat.reduceLT, reduceIte, reduceCtorEq, Int.reduceLE, Int.reduceLT, Int.reduceEq, Int.reduceAdd, Int.reduceMul, Int.reduceSub, Nat.reduceMul, Nat.reduceSub, Nat.reducePow, Nat.reduceLeDiff, Int.reduceToNat, DD, g1, g2, gt_iff_lt]
  · rw [decide_eq_false hf] at w1
    simp -implicitDefEqProofs only [go_sem, Nat.reduceAdd, Nat.reduceEqDiff, Nat.reduceLT, reduceIte, reduceCtorEq, Int.reduceLE, Int.reduceLT, Int.reduceEq, Int.reduceAdd, Int.reduceMul, Int.reduceSub, Nat.reduceMul, Nat.reduceSub, Nat.reducePow, Nat.reduceLeDiff, Int.reduceToNat, Tryd.f6, DD, g1, g2, gt_iff_lt]
    refine callK_q annuluslaw6_known.call (kn) rfl rfl ?_
    simp -implicitDefEqProofs only [go_sem, Nat.reduceAdd, Nat.reduceEqDiff, Nat.reduceLT, reduceIte, reduceCtorEq, Int.reduceLE, Int.reduceLT, Int.reduceEq, Int.reduceAdd, Int.reduceMul, Int.reduceSub, Nat.reduceMul, Nat.reduceSub, Nat.reducePow, Nat.reduceLeDiff, Int.reduceToNat, DD, g1, g2, gt_iff_lt]
    refine callK_q annuluslaw6_few.call (w1) rfl rfl ?_
    simp -implicitDefEqProofs only [go_sem, Nat.reduceAdd, Nat.reduceEqDiff, Nat.reduceLT, reduceIte, reduceCtorEq, Int.reduceLE, Int.reduceLT, Int.reduceEq, Int.reduceAdd, Int.reduceMul, Int.reduceSub, Nat.reduceMul, Nat.reduceSub, Nat.reducePow, Nat.reduceLeDiff, Int.reduceToNat, DD, g1, g2, gt_iff_lt]
end Go.Ab

/- Contracts of this seat's functions (of each call: what it answers), walked over the abstract machine, and the laws of numbers that they want. Conditions: those that each theorem states. -/
import Derived.Test.YtdkdpebfnddfpaaDoorRC
set_option linter.unusedVariables false
set_option maxRecDepth 20000
set_option linter.unusedSimpArgs false
set_option linter.unusedSectionVars false
namespace Go.Ab
open Go.Proofs

set_option maxRecDepth 100000 in
set_option maxHeartbeats 4000000 in
theorem quotSides_sat (n : Bool) (l : List Nat) (e : Int) (hl : Lm l) (n' : Bool) (l' : List Nat) (e' : Int) (hl' : Lm l') (a : Nat) (ha : a < 256) : Sat CT false 7 [DA n l e, DA n' l' e', .v (.int .u8 (a : Nat))] (Bo true) := by
  refine sat_of annuluslaw6_QuotSides.ok (by simp) ?_
  have DD := annuluslaw6_QuotSides.dr
  simp only [drP, drPx, drPt, drR, drS, drT, bodyOf, Tryd.f7, Nat.reduceEqDiff, reduceIte, true_and, and_true] at DD
  have kn := known6_s
  have w1 := few6_s n l e
  have w2 := few6_s n' l' e'
  have m1 : ((a : Int).tmod 200) = ((a % 200 : Nat) : Int) := Int.tmod_eq_emod_of_nonneg (by omega)
  obtain ⟨α, hα, hα2⟩ : ∃ α, α = a % 200 ∧ α ≤ 199 := ⟨_, rfl, by omega⟩
  rw [← hα] at m1
  have m3 : IntKind.i64.wrap (α : Int) = (α : Int) := wrap_id (by omega)
  have m5 : IntKind.i64.wrap ((α : Int) + 1) = ((α + 1 : Nat) : Int) := by rw [wrap_id (by omega)]; omega
  obtain ⟨p, hp⟩ : ∃ p, p = α + 1 := ⟨_, rfl⟩
  rw [← hp] at m5
  have hp1 : 1 ≤ p := by omega
  have hp2 : p ≤ 400 := by omega
  have hpp : heldP (p : Nat) = p := held_n p hp1 (by omega)
  clear hp hα hα2

  by_cases hf : l.length ≤ 20 ∧ -2000 ≤ e ∧ e ≤ 2000
  · by_cases hf' : l'.length ≤ 20 ∧ -2000 ≤ e' ∧ e' ≤ 2000
    · rw [decide_eq_true hf] at w1
      rw [decide_eq_true hf'] at w2
      obtain ⟨r1, x1, x2, x3⟩ := rd_raw (n := n) hl hf.1 hf.2.1 hf.2.2
      obtain ⟨r2, y1, y2, y3⟩ := rd_raw (n := n') hl' hf'.1 hf'.2.1 hf'.2.2
      generalize dv (iv n l) e = x at *
      generalize dv (iv n' l') e' = y at *
      have dx := r1.db
      have dy := r2.db
      have sy := dsign_r r2 (by decide)
      by_cases hy : y = 0
      · have c0 := sg_zero hy
        simp -implicitDefEqProofs only [go_sem, Nat.reduceAdd, Nat.reduceEqDiff, Nat.reduceLT, reduceIte, reduceCtorEq, Int.reduceLE, Int.reduceLT, Int.reduceEq, Int.reduceAdd, Int.reduceMul, Int.reduceSub, Nat.reduceMul, Nat.reduceSub, Nat.reducePow, Nat.reduceLeDiff, Int.reduceToNat, Tryd.f7, DD, c0, gt_iff_lt]
        refine callK_q annuluslaw6_known.call (kn) rfl rfl ?_
        simp -implicitDefEqProofs only [go_sem, Nat.reduceAdd, Nat.reduceEqDiff, Nat.reduceLT, reduceIte, reduceCtorEq, Int.reduceLE, Int.reduceLT, Int.reduceEq, Int.reduceAdd, Int.reduceMul, Int.reduceSub, Nat.reduceMul, Nat.reduceSub, Nat.reducePow, Nat.reduceLeDiff, Int.reduceToNat, DD, c0, gt_iff_lt]
        refine callK_q annuluslaw6_few.call (w1) rfl rfl ?_
        simp -implicitDefEqProofs only [go_sem, Nat.reduceAdd, Nat.reduceEqDiff, Nat.reduceLT, reduceIte, reduceCtorEq, Int.reduceLE, Int.reduceLT, Int.reduceEq, Int.reduceAdd, Int.reduceMul, Int.reduceSub, Nat.reduceMul, Nat.reduceSub, Nat.reducePow, Nat.reduceLeDiff, Int.reduceToNat, DD, c0, gt_iff_lt]
        refine callK_q annuluslaw6_few.call (w2) rfl rfl ?_
        simp -implicitDefEqProofs only [go_sem, Nat.reduceAdd, Nat.reduceEqDiff, Nat.reduceLT, reduceIte, reduceCtorEq, Int.reduceLE, Int.reduceLT, Int.reduceEq, Int.reduceAdd, Int.reduceMul, Int.reduceSub, Nat.reduceMul, Nat.reduceSub, Nat.reducePow, Nat.reduceLeDiff, Int.reduceToNat, DD, c0, gt_iff_lt]
        refine callK_q dyad_Sign.call (sy) rfl rfl ?_
        simp -implicitDefEqProofs only [go_sem, Nat.reduceAdd, Nat.reduceEqDiff, Nat.reduceLT, reduceIte, reduceCtorEq, Int.reduceLE, Int.reduceLT, Int.reduceEq, Int.reduceAdd, Int.reduceMul, Int.reduceSub, Nat.reduceMul, Nat.reduceSub, Nat.reducePow, Nat.reduceLeDiff, Int.reduceToNat, DD, c0, gt_iff_lt]
      · have c0 := sg_ne hy
        have a1 := dabs_r r1 (by decide)
        have adb := dab_db dx
        by_cases hx : x = 0
        · have z0 : dab x = 0 := by rw [hx, dab_0]
          have d1 := qdiv_x0 r1 r2 hx hy (by decide) (by decide) (p : Nat) 0
          have d2 := qdiv_x0 r1 r2 hx hy (by decide) (by decide) (p : Nat) 1
          have u1 := dmul_r rd0 r2 (by decide) (by decide)
          have b1 : DB ((0 : Dyadic) * y) 2640 := by rw [show (0 : Dyadic) * y = 0 by grind]; exact DB.zero _
          have k1 := dcmp_r (RD_D b1) r1 (by decide) (by decide)
          rw [show (dnum ((0 : Dyadic) * y - x)).sign = 0 by rw [hx, show (0 : Dyadic) * y - 0 = 0 by grind]; rfl] at k1
          have m0 : IntKind.i64.wrap ((dnum y).sign * 0) = 0 := by rw [Int.mul_zero]; rfl
          have f1 := fits5_0 rd0 (by decide) (p : Nat) rfl
          have s1 := dsame_r rd0 rd0 (by decide) (by decide)
          rw [decide_eq_true rfl] at s1
          have zn : dnum (dab x) ≤ 0 := by rw [z0]; decide
          have t1 := qroot_n (RD_D adb) zn (by decide) (p : Nat) 0
          have t2 := qroot_n (RD_D adb) zn (by decide) (p : Nat) 1
          rw [if_pos (show dnum (dab x) = 0 by rw [z0]; rfl)] at t1 t2
          have v1 := dmul_r rd0 rd0 (by decide) (by decide)
          have b2 : DB ((0 : Dyadic) * 0) 0 := by rw [show (0 : Dyadic) * 0 = 0 by grind]; exact DB.zero _
          have k3 := dcmp_r (RD_D b2) (RD_D adb) (by decide) (by decide)
          rw [show (dnum ((0 : Dyadic) * 0 - dab x)).sign = 0 by rw [z0, show (0 : Dyadic) * 0 - 0 = 0 by grind]; rfl] at k3
          have v3 := dsub_r rd0 rd0 (by decide) (by decide)
          have v4 := ulp5_0 rd0 (by decide) (p : Nat) rfl
          have b3 : DB ((0 : Dyadic) - 0) 0 := by rw [show (0 : Dyadic) - 0 = 0 by grind]; exact DB.zero _
          have k5 := dcmp_r (RD_D b3) rd0 (by decide) (by decide)
          rw [show (dnum ((0 : Dyadic) - 0 - 0)).sign = 0 by rw [show (0 : Dyadic) - 0 - 0 = 0 by grind]; rfl] at k5
          simp -implicitDefEqProofs only [go_sem, Nat.reduceAdd, Nat.reduceEqDiff, Nat.reduceLT, reduceIte, reduceCtorEq, Int.reduceLE, Int.reduceLT, Int.reduceEq, Int.reduceAdd, Int.reduceMul, Int.reduceSub, Nat.reduceMul, Nat.reduceSub, Nat.reducePow, Nat.reduceLeDiff, Int.reduceToNat, Tryd.f7, DD, c0, m1, m3, m5, ge_iff_le, gt_iff_lt, QZ, m0]
          refine callK_q annuluslaw6_known.call (kn) rfl rfl ?_
          simp -implicitDefEqProofs only [go_sem, Nat.reduceAdd, Nat.reduceEqDiff, Nat.reduceLT, reduceIte, reduceCtorEq, Int.reduceLE, Int.reduceLT, Int.reduceEq, Int.reduceAdd, Int.reduceMul, Int.reduceSub, Nat.reduceMul, Nat.reduceSub, Nat.reducePow, Nat.reduceLeDiff, Int.reduceToNat, DD, c0, m1, m3, m5, ge_iff_le, gt_iff_lt, QZ, m0]
          refine callK_q annuluslaw6_few.call (w1) rfl rfl ?_
          simp -implicitDefEqProofs only [go_sem, Nat.reduceAdd, Nat.reduceEqDiff, Nat.reduceLT, reduceIte, reduceCtorEq, Int.reduceLE, Int.reduceLT, Int.reduceEq, Int.reduceAdd, Int.reduceMul, Int.reduceSub, Nat.reduceMul, Nat.reduceSub, Nat.reducePow, Nat.reduceLeDiff, Int.reduceToNat, DD, c0, m1, m3, m5, ge_iff_le, gt_iff_lt, QZ, m0]
          refine callK_q annuluslaw6_few.call (w2) rfl rfl ?_
          simp -implicitDefEqProofs only [go_sem, Nat.reduceAdd, Nat.reduceEqDiff, Nat.reduceLT, reduceIte, reduceCtorEq, Int.reduceLE, Int.reduceLT, Int.reduceEq, Int.reduceAdd, Int.reduceMul, Int.reduceSub, Nat.reduceMul, Nat.reduceSub, Nat.reducePow, Nat.reduceLeDiff, Int.reduceToNat, DD, c0, m1, m3, m5, ge_iff_le, gt_iff_lt, QZ, m0]
          refine callK_q dyad_Sign.call (sy) rfl rfl ?_
          simp -implicitDefEqProofs only [go_sem, Nat.reduceAdd, Nat.reduceEqDiff, Nat.reduceLT, reduceIte, reduceCtorEq, Int.reduceLE, Int.reduceLT, Int.reduceEq, Int.reduceAdd, Int.reduceMul, Int.reduceSub, Nat.reduceMul, Nat.reduceSub, Nat.reducePow, Nat.reduceLeDiff, Int.reduceToNat, DD, c0, m1, m3, m5, ge_iff_le, gt_iff_lt, QZ, m0]
          refine callK_q quot_Div.call (d1) rfl rfl ?_
          simp -implicitDefEqProofs only [go_sem, Nat.reduceAdd, Nat.reduceEqDiff, Nat.reduceLT, reduceIte, reduceCtorEq, Int.reduceLE, Int.reduceLT, Int.reduceEq, Int.reduceAdd, Int.reduceMul, Int.reduceSub, Nat.reduceMul, Nat.reduceSub, Nat.reducePow, Nat.reduceLeDiff, Int.reduceToNat, DD, c0, m1, m3, m5, ge_iff_le, gt_iff_lt, QZ, m0]
          refine callK_q quot_Div.call (d2) rfl rfl ?_
          simp -implicitDefEqProofs only [go_sem, Nat.reduceAdd, Nat.reduceEqDiff, Nat.reduceLT, reduceIte, reduceCtorEq, Int.reduceLE, Int.reduceLT, Int.reduceEq, Int.reduceAdd, Int.reduceMul, Int.reduceSub, Nat.reduceMul, Nat.reduceSub, Nat.reducePow, Nat.reduceLeDiff, Int.reduceToNat, DD, c0, m1, m3, m5, ge_iff_le, gt_iff_lt, QZ, m0]
          refine callK_q dyad_Sign.call (sy) rfl rfl ?_
          simp -implicitDefEqProofs only [go_sem, Nat.reduceAdd, Nat.reduceEqDiff, Nat.reduceLT, reduceIte, reduceCtorEq, Int.reduceLE, Int.reduceLT, Int.reduceEq, Int.reduceAdd, Int.reduceMul, Int.reduceSub, Nat.reduceMul, Nat.reduceSub, Nat.reducePow, Nat.reduceLeDiff, Int.reduceToNat, DD, c0, m1, m3, m5, ge_iff_le, gt_iff_lt, QZ, m0]
          refine callK_q dyad_Mul.call (u1) rfl rfl ?_
          simp -implicitDefEqProofs only [go_sem, Nat.reduceAdd, Nat.reduceEqDiff, Nat.reduceLT, reduceIte, reduceCtorEq, Int.reduceLE, Int.reduceLT, Int.reduceEq, Int.reduceAdd, Int.reduceMul, Int.reduceSub, Nat.reduceMul, Nat.reduceSub, Nat.reducePow, Nat.reduceLeDiff, Int.reduceToNat, DD, c0, m1, m3, m5, ge_iff_le, gt_iff_lt, QZ, m0]
          refine callK_q dyad_Cmp.call (k1) rfl rfl ?_
          simp -implicitDefEqProofs only [go_sem, Nat.reduceAdd, Nat.reduceEqDiff, Nat.reduceLT, reduceIte, reduceCtorEq, Int.reduceLE, Int.reduceLT, Int.reduceEq, Int.reduceAdd, Int.reduceMul, Int.reduceSub, Nat.reduceMul, Nat.reduceSub, Nat.reducePow, Nat.reduceLeDiff, Int.reduceToNat, DD, c0, m1, m3, m5, ge_iff_le, gt_iff_lt, QZ, m0]
          refine callK_q dyad_Mul.call (u1) rfl rfl ?_
          simp -implicitDefEqProofs only [go_sem, Nat.reduceAdd, Nat.reduceEqDiff, Nat.reduceLT, reduceIte, reduceCtorEq, Int.reduceLE, Int.reduceLT, Int.reduceEq, Int.reduceAdd, Int.reduceMul, Int.reduceSub, Nat.reduceMul, Nat.reduceSub, Nat.reducePow, Nat.reduceLeDiff, Int.reduceToNat, DD, c0, m1, m3, m5, ge_iff_le, gt_iff_lt, QZ, m0]
          refine callK_q dyad_Cmp.call (k1) rfl rfl ?_
          simp -implicitDefEqProofs only [go_sem, Nat.reduceAdd, Nat.reduceEqDiff, Nat.reduceLT, reduceIte, reduceCtorEq, Int.reduceLE, Int.reduceLT, Int.reduceEq, Int.reduceAdd, Int.reduceMul, Int.reduceSub, Nat.reduceMul, Nat.reduceSub, Nat.reducePow, Nat.reduceLeDiff, Int.reduceToNat, DD, c0, m1, m3, m5, ge_iff_le, gt_iff_lt, QZ, m0]
          refine callK_q round_Fits.call (f1) rfl rfl ?_
          simp -implicitDefEqProofs only [go_sem, Nat.reduceAdd, Nat.reduceEqDiff, Nat.reduceLT, reduceIte, reduceCtorEq, Int.reduceLE, Int.reduceLT, Int.reduceEq, Int.reduceAdd, Int.reduceMul, Int.reduceSub, Nat.reduceMul, Nat.reduceSub, Nat.reducePow, Nat.reduceLeDiff, Int.reduceToNat, DD, c0, m1, m3, m5, ge_iff_le, gt_iff_lt, QZ, m0]
          refine callK_q round_Fits.call (f1) rfl rfl ?_
          simp -implicitDefEqProofs only [go_sem, Nat.reduceAdd, Nat.reduceEqDiff, Nat.reduceLT, reduceIte, reduceCtorEq, Int.reduceLE, Int.reduceLT, Int.reduceEq, Int.reduceAdd, Int.reduceMul, Int.reduceSub, Nat.reduceMul, Nat.reduceSub, Nat.reducePow, Nat.reduceLeDiff, Int.reduceToNat, DD, c0, m1, m3, m5, ge_iff_le, gt_iff_lt, QZ, m0]
          refine callK_q dyad_Same.call (s1) rfl rfl ?_
          simp -implicitDefEqProofs only [go_sem, Nat.reduceAdd, Nat.reduceEqDiff, Nat.reduceLT, reduceIte, reduceCtorEq, Int.reduceLE, Int.reduceLT, Int.reduceEq, Int.reduceAdd, Int.reduceMul, Int.reduceSub, Nat.reduceMul, Nat.reduceSub, Nat.reducePow, Nat.reduceLeDiff, Int.reduceToNat, DD, c0, m1, m3, m5, ge_iff_le, gt_iff_lt, QZ, m0]
          refine callK_q dyad_Abs.call (a1) rfl rfl ?_
          simp -implicitDefEqProofs only [go_sem, Nat.reduceAdd, Nat.reduceEqDiff, Nat.reduceLT, reduceIte, reduceCtorEq, Int.reduceLE, Int.reduceLT, Int.reduceEq, Int.reduceAdd, Int.reduceMul, Int.reduceSub, Nat.reduceMul, Nat.reduceSub, Nat.reducePow, Nat.reduceLeDiff, Int.reduceToNat, DD, c0, m1, m3, m5, ge_iff_le, gt_iff_lt, QZ, m0]
          refine callK_q quot_Root.call (t1) rfl rfl ?_
          simp -implicitDefEqProofs only [go_sem, Nat.reduceAdd, Nat.reduceEqDiff, Nat.reduceLT, reduceIte, reduceCtorEq, Int.reduceLE, Int.reduceLT, Int.reduceEq, Int.reduceAdd, Int.reduceMul, Int.reduceSub, Nat.reduceMul, Nat.reduceSub, Nat.reducePow, Nat.reduceLeDiff, Int.reduceToNat, DD, c0, m1, m3, m5, ge_iff_le, gt_iff_lt, QZ, m0]
          refine callK_q quot_Root.call (t2) rfl rfl ?_
          simp -implicitDefEqProofs only [go_sem, Nat.reduceAdd, Nat.reduceEqDiff, Nat.reduceLT, reduceIte, reduceCtorEq, Int.reduceLE, Int.reduceLT, Int.reduceEq, Int.reduceAdd, Int.reduceMul, Int.reduceSub, Nat.reduceMul, Nat.reduceSub, Nat.reducePow, Nat.reduceLeDiff, Int.reduceToNat, DD, c0, m1, m3, m5, ge_iff_le, gt_iff_lt, QZ, m0]
          refine callK_q dyad_Mul.call (v1) rfl rfl ?_
          simp -implicitDefEqProofs only [go_sem, Nat.reduceAdd, Nat.reduceEqDiff, Nat.reduceLT, reduceIte, reduceCtorEq, Int.reduceLE, Int.reduceLT, Int.reduceEq, Int.reduceAdd, Int.reduceMul, Int.reduceSub, Nat.reduceMul, Nat.reduceSub, Nat.reducePow, Nat.reduceLeDiff, Int.reduceToNat, DD, c0, m1, m3, m5, ge_iff_le, gt_iff_lt, QZ, m0]
          refine callK_q dyad_Cmp.call (k3) rfl rfl ?_
          simp -implicitDefEqProofs only [go_sem, Nat.reduceAdd, Nat.reduceEqDiff, Nat.reduceLT, reduceIte, reduceCtorEq, Int.reduceLE, Int.reduceLT, Int.reduceEq, Int.reduceAdd, Int.reduceMul, Int.reduceSub, Nat.reduceMul, Nat.reduceSub, Nat.reducePow, Nat.reduceLeDiff, Int.reduceToNat, DD, c0, m1, m3, m5, ge_iff_le, gt_iff_lt, QZ, m0]
          refine callK_q dyad_Mul.call (v1) rfl rfl ?_
          simp -implicitDefEqProofs only [go_sem, Nat.reduceAdd, Nat.reduceEqDiff, Nat.reduceLT, reduceIte, reduceCtorEq, Int.reduceLE, Int.reduceLT, Int.reduceEq, Int.reduceAdd, Int.reduceMul, Int.reduceSub, Nat.reduceMul, Nat.reduceSub, Nat.reducePow, Nat.reduceLeDiff, Int.reduceToNat, DD, c0, m1, m3, m5, ge_iff_le, gt_iff_lt, QZ, m0]
          refine callK_q dyad_Cmp.call (k3) rfl rfl ?_
          simp -implicitDefEqProofs only [go_sem, Nat.reduceAdd, Nat.reduceEqDiff, Nat.reduceLT, reduceIte, reduceCtorEq, Int.reduceLE, Int.reduceLT, Int.reduceEq, Int.reduceAdd, Int.reduceMul, Int.reduceSub, Nat.reduceMul, Nat.reduceSub, Nat.reducePow, Nat.reduceLeDiff, Int.reduceToNat, DD, c0, m1, m3, m5, ge_iff_le, gt_iff_lt, QZ, m0]
          refine callK_q dyad_Sub.call (v3) rfl rfl ?_
          simp -implicitDefEqProofs only [go_sem, Nat.reduceAdd, Nat.reduceEqDiff, Nat.reduceLT, reduceIte, reduceCtorEq, Int.reduceLE, Int.reduceLT, Int.reduceEq, Int.reduceAdd, Int.reduceMul, Int.reduceSub, Nat.reduceMul, Nat.reduceSub, Nat.reducePow, Nat.reduceLeDiff, Int.reduceToNat, DD, c0, m1, m3, m5, ge_iff_le, gt_iff_lt, QZ, m0]
          refine callK_q round_Ulp.call (v4) rfl rfl ?_
          simp -implicitDefEqProofs only [go_sem, Nat.reduceAdd, Nat.reduceEqDiff, Nat.reduceLT, reduceIte, reduceCtorEq, Int.reduceLE, Int.reduceLT, Int.reduceEq, Int.reduceAdd, Int.reduceMul, Int.reduceSub, Nat.reduceMul, Nat.reduceSub, Nat.reducePow, Nat.reduceLeDiff, Int.reduceToNat, DD, c0, m1, m3, m5, ge_iff_le, gt_iff_lt, QZ, m0]
          refine callK_q dyad_Cmp.call (k5) rfl rfl ?_
          simp -implicitDefEqProofs only [go_sem, Nat.reduceAdd, Nat.reduceEqDiff, Nat.reduceLT, reduceIte, reduceCtorEq, Int.reduceLE, Int.reduceLT, Int.reduceEq, Int.reduceAdd, Int.reduceMul, Int.reduceSub, Nat.reduceMul, Nat.reduceSub, Nat.reducePow, Nat.reduceLeDiff, Int.reduceToNat, DD, c0, m1, m3, m5, ge_iff_le, gt_iff_lt, QZ, m0]
          refine callK_q round_Fits.call (f1) rfl rfl ?_
          simp -implicitDefEqProofs only [go_sem, Nat.reduceAdd, Nat.reduceEqDiff, Nat.reduceLT, reduceIte, reduceCtorEq, Int.reduceLE, Int.reduceLT, Int.reduceEq, Int.reduceAdd, Int.reduceMul, Int.reduceSub, Nat.reduceMul, Nat.reduceSub, Nat.reducePow, Nat.reduceLeDiff, Int.reduceToNat, DD, c0, m1, m3, m5, ge_iff_le, gt_iff_lt, QZ, m0]
          refine callK_q round_Fits.call (f1) rfl rfl ?_
          simp -implicitDefEqProofs only [go_sem, Nat.reduceAdd, Nat.reduceEqDiff, Nat.reduceLT, reduceIte, reduceCtorEq, Int.reduceLE, Int.reduceLT, Int.reduceEq, Int.reduceAdd, Int.reduceMul, Int.reduceSub, Nat.reduceMul, Nat.reduceSub, Nat.reducePow, Nat.reduceLeDiff, Int.reduceToNat, DD, c0, m1, m3, m5, ge_iff_le, gt_iff_lt, QZ, m0]
        · obtain ⟨ab, ap, aa, an⟩ := dab_ok dx hx
          have d1 := qdiv_ok r1 r2 hx hy (by decide) (by decide) (p : Nat) 0
          have d2 := qdiv_ok r1 r2 hx hy (by decide) (by decide) (p : Nat) 1
          have t1 := qroot_ok (RD_D ab) ap (by decide) (p : Nat) 0
          have t2 := qroot_ok (RD_D ab) ap (by decide) (p : Nat) 1
          rw [hpp] at d1 d2 t1 t2
          rw [show decide ((0 : Int) = 1) = false from rfl] at d1 t1
          rw [show decide ((1 : Int) = 1) = true from rfl] at d2 t2
          have q1 := dquo_db hx hy x1 y1 x2 y2 hp1 hp2 false
          have q2 := dquo_db hx hy x1 y1 x2 y2 hp1 hp2 true
          have ax1 : bl (dnum (dab x)).natAbs ≤ 1300 := by rw [an]; exact x1
          have ax2 : (dexp (dab x)).natAbs ≤ 3000 := by rw [dexp_dab]; exact x2
          have q3 := droot_db ap ax1 ax2 hp1 hp2 false
          have q4 := droot_db ap ax1 ax2 hp1 hp2 true
          obtain ⟨i1, i2, i3, i4, h1, h2, h3, h4⟩ := dquo_sides hx hy hp1
          obtain ⟨j1, j2, j3, j4⟩ := droot_sides ap hp1
          have g1 := h4 false
          have g2 := h4 true
          have g3 := j4 false
          have g4 := j4 true
          clear h4 j4
          generalize dquo x y p false = lo at *
          generalize dquo x y p true = hi at *
          generalize droot (dab x) p false = ll at *
          generalize droot (dab x) p true = uu at *
          generalize dab x = aX at *
          have u1 := dmul_r (RD_D q1) r2 (by decide) (by decide)
          have u2 := dmul_r (RD_D q2) r2 (by decide) (by decide)
          have k1 := dcmp_r (RD_D (q1.mul dy)) r1 (by decide) (by decide)
          have k2 := dcmp_r (RD_D (q2.mul dy)) r1 (by decide) (by decide)
          have e1 := sgn_side hy h1
          have e2 := sgn_side hy h2
          have w3 := wrap_sgn (dnum y) (dnum (lo * y - x))
          have w4 := wrap_sgn (dnum y) (dnum (hi * y - x))
          rw [e1] at w3
          rw [e2] at w4
          have n1 : ¬ 0 < i1 := Int.not_lt.2 i3
          have n2 : ¬ i2 < 0 := Int.not_lt.2 i4
          have f1 := fits5 (RD_D q1) (by decide) (p : Nat) g1.1 (by rw [hpp]; exact g1.2)
          have f2 := fits5 (RD_D q2) (by decide) (p : Nat) g2.1 (by rw [hpp]; exact g2.2)
          have f3 := fits5 (RD_D q3) (by decide) (p : Nat) g3.1 (by rw [hpp]; exact g3.2)
          have f4 := fits5 (RD_D q4) (by decide) (p : Nat) g4.1 (by rw [hpp]; exact g4.2)
          have v1 := dmul_r (RD_D q3) (RD_D q3) (by decide) (by decide)
          have v2 := dmul_r (RD_D q4) (RD_D q4) (by decide) (by decide)
          have k3 := dcmp_r (RD_D (q3.mul q3)) (RD_D ab) (by decide) (by decide)
          have k4 := dcmp_r (RD_D (q4.mul q4)) (RD_D ab) (by decide) (by decide)
          have v3 := dsub_r (RD_D q4) (RD_D q3) (by decide) (by decide)
          have v4 := ulp5 (RD_D q3) (by decide) (p : Nat) g3.1
          have bt : (dtop ll - heldP (p : Nat) + 1).natAbs ≤ 16000 := by
            have := q3.num.2
            rw [hpp, dtop_n0 g3.1]
            have := g3.2
            omega
          have k5 := dcmp_r (RD_D (q4.sub q3)) (RD_D (DB.raw (m := 1) (L := 1) (B := 16001) (by decide) bt (by decide))) (by decide) (by decide)
          rw [hpp] at v4 k5
          unfold dsg at j1 j2 j3
          have s1 := dsame_r (RD_D q1) (RD_D q2) (by decide) (by decide)
          have s2 := dsame_r (RD_D (q1.mul dy)) r1 (by decide) (by decide)
          have s3 := dsame_r (RD_D (q2.mul dy)) r1 (by decide) (by decide)
          clear q1 q2 q3 q4 g1 g2 g3 g4 bt h1 h2 i3 i4 x1 x2 y1 y2 ax1 ax2 x3 y3 hf hf' an aa hpp hp1 hp2
          by_cases hs : lo = hi
          · rw [decide_eq_true hs] at s1
            simp -implicitDefEqProofs only [go_sem, Nat.reduceAdd, Nat.reduceEqDiff, Nat.reduceLT, reduceIte, reduceCtorEq, Int.reduceLE, Int.reduceLT, Int.reduceEq, Int.reduceAdd, Int.reduceMul, Int.reduceSub, Nat.reduceMul, Nat.reduceSub, Nat.reducePow, Nat.reduceLeDiff, Int.reduceToNat, Tryd.f7, DD, c0, m1, m3, m5, ge_iff_le, gt_iff_lt, e1, e2, w3, w4, n1, n2, j1, j2, j3]
            refine callK_q annuluslaw6_known.call (kn) rfl rfl ?_
            simp -implicitDefEqProofs only [go_sem, Nat.reduceAdd, Nat.reduceEqDiff, Nat.reduceLT, reduceIte, reduceCtorEq, Int.reduceLE, Int.reduceLT, Int.reduceEq, Int.reduceAdd, Int.reduceMul, Int.reduceSub, Nat.reduceMul, Nat.reduceSub, Nat.reducePow, Nat.reduceLeDiff, Int.reduceToNat, DD, c0, m1, m3, m5, ge_iff_le, gt_iff_lt, e1, e2, w3, w4, n1, n2, j1, j2, j3]
            refine callK_q annuluslaw6_few.call (w1) rfl rfl ?_
            simp -implicitDefEqProofs only [go_sem, Nat.reduceAdd, Nat.reduceEqDiff, Nat.reduceLT, reduceIte, reduceCtorEq, Int.reduceLE, Int.reduceLT, Int.reduceEq, Int.reduceAdd, Int.reduceMul, Int.reduceSub, Nat.reduceMul, Nat.reduceSub, Nat.reducePow, Nat.reduceLeDiff, Int.reduceToNat, DD, c0, m1, m3, m5, ge_iff_le, gt_iff_lt, e1, e2, w3, w4, n1, n2, j1, j2, j3]
            refine callK_q annuluslaw6_few.call (w2) rfl rfl ?_
            simp -implicitDefEqProofs only [go_sem, Nat.reduceAdd, Nat.reduceEqDiff, Nat.reduceLT, reduceIte, reduceCtorEq, Int.reduceLE, Int.reduceLT, Int.reduceEq, Int.reduceAdd, Int.reduceMul, Int.reduceSub, Nat.reduceMul, Nat.reduceSub, Nat.reducePow, Nat.reduceLeDiff, Int.reduceToNat, DD, c0, m1, m3, m5, ge_iff_le, gt_iff_lt, e1, e2, w3, w4, n1, n2, j1, j2, j3]
            refine callK_q dyad_Sign.call (sy) rfl rfl ?_
            simp -implicitDefEqProofs only [go_sem, Nat.reduceAdd, Nat.reduceEqDiff, Nat.reduceLT, reduceIte, reduceCtorEq, Int.reduceLE, Int.reduceLT, Int.reduceEq, Int.reduceAdd, Int.reduceMul, Int.reduceSub, Nat.reduceMul, Nat.reduceSub, Nat.reducePow, Nat.reduceLeDiff, Int.reduceToNat, DD, c0, m1, m3, m5, ge_iff_le, gt_iff_lt, e1, e2, w3, w4, n1, n2, j1, j2, j3]
            refine callK_q quot_Div.call (d1) rfl rfl ?_
            simp -implicitDefEqProofs only [go_sem, Nat.reduceAdd, Nat.reduceEqDiff, Nat.reduceLT, reduceIte, reduceCtorEq, Int.reduceLE, Int.reduceLT, Int.reduceEq, Int.reduceAdd, Int.reduceMul, Int.reduceSub, Nat.reduceMul, Nat.reduceSub, Nat.reducePow, Nat.reduceLeDiff, Int.reduceToNat, DD, c0, m1, m3, m5, ge_iff_le, gt_iff_lt, e1, e2, w3, w4, n1, n2, j1, j2, j3]
            refine callK_q quot_Div.call (d2) rfl rfl ?_
            simp -implicitDefEqProofs only [go_sem, Nat.reduceAdd, Nat.reduceEqDiff, Nat.reduceLT, reduceIte, reduceCtorEq, Int.reduceLE, Int.reduceLT, Int.reduceEq, Int.reduceAdd, Int.reduceMul, Int.reduceSub, Nat.reduceMul, Nat.reduceSub, Nat.reducePow, Nat.reduceLeDiff, Int.reduceToNat, DD, c0, m1, m3, m5, ge_iff_le, gt_iff_lt, e1, e2, w3, w4, n1, n2, j1, j2, j3]
            refine callK_q dyad_Sign.call (sy) rfl rfl ?_
            simp -implicitDefEqProofs only [go_sem, Nat.reduceAdd, Nat.reduceEqDiff, Nat.reduceLT, reduceIte, reduceCtorEq, Int.reduceLE, Int.reduceLT, Int.reduceEq, Int.reduceAdd, Int.reduceMul, Int.reduceSub, Nat.reduceMul, Nat.reduceSub, Nat.reducePow, Nat.reduceLeDiff, Int.reduceToNat, DD, c0, m1, m3, m5, ge_iff_le, gt_iff_lt, e1, e2, w3, w4, n1, n2, j1, j2, j3]
            refine callK_q dyad_Mul.call (u1) rfl rfl ?_
            simp -implicitDefEqProofs only [go_sem, Nat.reduceAdd, Nat.reduceEqDiff, Nat.reduceLT, reduceIte, reduceCtorEq, Int.reduceLE, Int.reduceLT, Int.reduceEq, Int.reduceAdd, Int.reduceMul, Int.reduceSub, Nat.reduceMul, Nat.reduceSub, Nat.reducePow, Nat.reduceLeDiff, Int.reduceToNat, DD, c0, m1, m3, m5, ge_iff_le, gt_iff_lt, e1, e2, w3, w4, n1, n2, j1, j2, j3]
            refine callK_q dyad_Cmp.call (k1) rfl rfl ?_
            simp -implicitDefEqProofs only [go_sem, Nat.reduceAdd, Nat.reduceEqDiff, Nat.reduceLT, reduceIte, reduceCtorEq, Int.reduceLE, Int.reduceLT, Int.reduceEq, Int.reduceAdd, Int.reduceMul, Int.reduceSub, Nat.reduceMul, Nat.reduceSub, Nat.reducePow, Nat.reduceLeDiff, Int.reduceToNat, DD, c0, m1, m3, m5, ge_iff_le, gt_iff_lt, e1, e2, w3, w4, n1, n2, j1, j2, j3]
            refine callK_q dyad_Mul.call (u2) rfl rfl ?_
            simp -implicitDefEqProofs only [go_sem, Nat.reduceAdd, Nat.reduceEqDiff, Nat.reduceLT, reduceIte, reduceCtorEq, Int.reduceLE, Int.reduceLT, Int.reduceEq, Int.reduceAdd, Int.reduceMul, Int.reduceSub, Nat.reduceMul, Nat.reduceSub, Nat.reducePow, Nat.reduceLeDiff, Int.reduceToNat, DD, c0, m1, m3, m5, ge_iff_le, gt_iff_lt, e1, e2, w3, w4, n1, n2, j1, j2, j3]
            refine callK_q dyad_Cmp.call (k2) rfl rfl ?_
            simp -implicitDefEqProofs only [go_sem, Nat.reduceAdd, Nat.reduceEqDiff, Nat.reduceLT, reduceIte, reduceCtorEq, Int.reduceLE, Int.reduceLT, Int.reduceEq, Int.reduceAdd, Int.reduceMul, Int.reduceSub, Nat.reduceMul, Nat.reduceSub, Nat.reducePow, Nat.reduceLeDiff, Int.reduceToNat, DD, c0, m1, m3, m5, ge_iff_le, gt_iff_lt, e1, e2, w3, w4, n1, n2, j1, j2, j3]
            refine callK_q round_Fits.call (f1) rfl rfl ?_
            simp -implicitDefEqProofs only [go_sem, Nat.reduceAdd, Nat.reduceEqDiff, Nat.reduceLT, reduceIte, reduceCtorEq, Int.reduceLE, Int.reduceLT, Int.reduceEq, Int.reduceAdd, Int.reduceMul, Int.reduceSub, Nat.reduceMul, Nat.reduceSub, Nat.reducePow, Nat.reduceLeDiff, Int.reduceToNat, DD, c0, m1, m3, m5, ge_iff_le, gt_iff_lt, e1, e2, w3, w4, n1, n2, j1, j2, j3]
            refine callK_q round_Fits.call (f2) rfl rfl ?_
            simp -implicitDefEqProofs only [go_sem, Nat.reduceAdd, Nat.reduceEqDiff, Nat.reduceLT, reduceIte, reduceCtorEq, Int.reduceLE, Int.reduceLT, Int.reduceEq, Int.reduceAdd, Int.reduceMul, Int.reduceSub, Nat.reduceMul, Nat.reduceSub, Nat.reducePow, Nat.reduceLeDiff, Int.reduceToNat, DD, c0, m1, m3, m5, ge_iff_le, gt_iff_lt, e1, e2, w3, w4, n1, n2, j1, j2, j3]
            refine callK_q dyad_Same.call (s1) rfl rfl ?_
            simp -implicitDefEqProofs only [go_sem, Nat.reduceAdd, Nat.reduceEqDiff, Nat.reduceLT, reduceIte, reduceCtorEq, Int.reduceLE, Int.reduceLT, Int.reduceEq, Int.reduceAdd, Int.reduceMul, Int.reduceSub, Nat.reduceMul, Nat.reduceSub, Nat.reducePow, Nat.reduceLeDiff, Int.reduceToNat, DD, c0, m1, m3, m5, ge_iff_le, gt_iff_lt, e1, e2, w3, w4, n1, n2, j1, j2, j3]
            refine callK_q dyad_Abs.call (a1) rfl rfl ?_
            simp -implicitDefEqProofs only [go_sem, Nat.reduceAdd, Nat.reduceEqDiff, Nat.reduceLT, reduceIte, reduceCtorEq, Int.reduceLE, Int.reduceLT, Int.reduceEq, Int.reduceAdd, Int.reduceMul, Int.reduceSub, Nat.reduceMul, Nat.reduceSub, Nat.reducePow, Nat.reduceLeDiff, Int.reduceToNat, DD, c0, m1, m3, m5, ge_iff_le, gt_iff_lt, e1, e2, w3, w4, n1, n2, j1, j2, j3]
            refine callK_q quot_Root.call (t1) rfl rfl ?_
            simp -implicitDefEqProofs only [go_sem, Nat.reduceAdd, Nat.reduceEqDiff, Nat.reduceLT, reduceIte, reduceCtorEq, Int.reduceLE, Int.reduceLT, Int.reduceEq, Int.reduceAdd, Int.reduceMul, Int.reduceSub, Nat.reduceMul, Nat.reduceSub, Nat.reducePow, Nat.reduceLeDiff, Int.reduceToNat, DD, c0, m1, m3, m5, ge_iff_le, gt_iff_lt, e1, e2, w3, w4, n1, n2, j1, j2, j3]
            refine callK_q quot_Root.call (t2) rfl rfl ?_
            simp -implicitDefEqProofs only [go_sem, Nat.reduceAdd, Nat.reduceEqDiff, Nat.reduceLT, reduceIte, reduceCtorEq, Int.reduceLE, Int.reduceLT, Int.reduceEq, Int.reduceAdd, Int.reduceMul, Int.reduceSub, Nat.reduceMul, Nat.reduceSub, Nat.reducePow, Nat.reduceLeDiff, Int.reduceToNat, DD, c0, m1, m3, m5, ge_iff_le, gt_iff_lt, e1, e2, w3, w4, n1, n2, j1, j2, j3]
            refine callK_q dyad_Mul.call (v1) rfl rfl ?_
            simp -implicitDefEqProofs only [go_sem, Nat.reduceAdd, Nat.reduceEqDiff, Nat.reduceLT, reduceIte, reduceCtorEq, Int.reduceLE, Int.reduceLT, Int.reduceEq, Int.reduceAdd, Int.reduceMul, Int.reduceSub, Nat.reduceMul, Nat.reduceSub, Nat.reducePow, Nat.reduceLeDiff, Int.reduceToNat, DD, c0, m1, m3, m5, ge_iff_le, gt_iff_lt, e1, e2, w3, w4, n1, n2, j1, j2, j3]
            refine callK_q dyad_Cmp.call (k3) rfl rfl ?_
            simp -implicitDefEqProofs only [go_sem, Nat.reduceAdd, Nat.reduceEqDiff, Nat.reduceLT, reduceIte, reduceCtorEq, Int.reduceLE, Int.reduceLT, Int.reduceEq, Int.reduceAdd, Int.reduceMul, Int.reduceSub, Nat.reduceMul, Nat.reduceSub, Nat.reducePow, Nat.reduceLeDiff, Int.reduceToNat, DD, c0, m1, m3, m5, ge_iff_le, gt_iff_lt, e1, e2, w3, w4, n1, n2, j1, j2, j3]
            refine callK_q dyad_Mul.call (v2) rfl rfl ?_
            simp -implicitDefEqProofs only [go_sem, Nat.reduceAdd, Nat.reduceEqDiff, Nat.reduceLT, reduceIte, reduceCtorEq, Int.reduceLE, Int.reduceLT, Int.reduceEq, Int.reduceAdd, Int.reduceMul, Int.reduceSub, Nat.reduceMul, Nat.reduceSub, Nat.reducePow, Nat.reduceLeDiff, Int.reduceToNat, DD, c0, m1, m3, m5, ge_iff_le, gt_iff_lt, e1, e2, w3, w4, n1, n2, j1, j2, j3]
            refine callK_q dyad_Cmp.call (k4) rfl rfl ?_
            simp -implicitDefEqProofs only [go_sem, Nat.reduceAdd, Nat.reduceEqDiff, Nat.reduceLT, reduceIte, reduceCtorEq, Int.reduceLE, Int.reduceLT, Int.reduceEq, Int.reduceAdd, Int.reduceMul, Int.reduceSub, Nat.reduceMul, Nat.reduceSub, Nat.reducePow, Nat.reduceLeDiff, Int.reduceToNat, DD, c0, m1, m3, m5, ge_iff_le, gt_iff_lt, e1, e2, w3, w4, n1, n2, j1, j2, j3]
            refine callK_q dyad_Sub.call (v3) rfl rfl ?_
            simp -implicitDefEqProofs only [go_sem, Nat.reduceAdd, Nat.reduceEqDiff, Nat.reduceLT, reduceIte, reduceCtorEq, Int.reduceLE, Int.reduceLT, Int.reduceEq, Int.reduceAdd, Int.reduceMul, Int.reduceSub, Nat.reduceMul, Nat.reduceSub, Nat.reducePow, Nat.reduceLeDiff, Int.reduceToNat, DD, c0, m1, m3, m5, ge_iff_le, gt_iff_lt, e1, e2, w3, w4, n1, n2, j1, j2, j3]
            refine callK_q round_Ulp.call (v4) rfl rfl ?_
            simp -implicitDefEqProofs only [go_sem, Nat.reduceAdd, Nat.reduceEqDiff, Nat.reduceLT, reduceIte, reduceCtorEq, Int.reduceLE, Int.reduceLT, Int.reduceEq, Int.reduceAdd, Int.reduceMul, Int.reduceSub, Nat.reduceMul, Nat.reduceSub, Nat.reducePow, Nat.reduceLeDiff, Int.reduceToNat, DD, c0, m1, m3, m5, ge_iff_le, gt_iff_lt, e1, e2, w3, w4, n1, n2, j1, j2, j3]
            refine callK_q dyad_Cmp.call (k5) rfl rfl ?_
            simp -implicitDefEqProofs only [go_sem, Nat.reduceAdd, Nat.reduceEqDiff, Nat.reduceLT, reduceIte, reduceCtorEq, Int.reduceLE, Int.reduceLT, Int.reduceEq, Int.reduceAdd, Int.reduceMul, Int.reduceSub, Nat.reduceMul, Nat.reduceSub, Nat.reducePow, Nat.reduceLeDiff, Int.reduceToNat, DD, c0, m1, m3, m5, ge_iff_le, gt_iff_lt, e1, e2, w3, w4, n1, n2, j1, j2, j3]
            refine callK_q round_Fits.call (f3) rfl rfl ?_
            simp -implicitDefEqProofs only [go_sem, Nat.reduceAdd, Nat.reduceEqDiff, Nat.reduceLT, reduceIte, reduceCtorEq, Int.reduceLE, Int.reduceLT, Int.reduceEq, Int.reduceAdd, Int.reduceMul, Int.reduceSub, Nat.reduceMul, Nat.reduceSub, Nat.reducePow, Nat.reduceLeDiff, Int.reduceToNat, DD, c0, m1, m3, m5, ge_iff_le, gt_iff_lt, e1, e2, w3, w4, n1, n2, j1, j2, j3]
            refine callK_q round_Fits.call (f4) rfl rfl ?_
            simp -implicitDefEqProofs only [go_sem, Nat.reduceAdd, Nat.reduceEqDiff, Nat.reduceLT, reduceIte, reduceCtorEq, Int.reduceLE, Int.reduceLT, Int.reduceEq, Int.reduceAdd, Int.reduceMul, Int.reduceSub, Nat.reduceMul, Nat.reduceSub, Nat.reducePow, Nat.reduceLeDiff, Int.reduceToNat, DD, c0, m1, m3, m5, ge_iff_le, gt_iff_lt, e1, e2, w3, w4, n1, n2, j1, j2, j3]
          · rw [decide_eq_false hs] at s1
            obtain ⟨h5, h6⟩ := h3.resolve_left hs
            rw [decide_eq_false h5] at s2
            rw [decide_eq_false h6] at s3
            simp -implicitDefEqProofs only [go_sem, Nat.reduceAdd, Nat.reduceEqDiff, Nat.reduceLT, reduceIte, reduceCtorEq, Int.reduceLE, Int.reduceLT, Int.reduceEq, Int.reduceAdd, Int.reduceMul, Int.reduceSub, Nat.reduceMul, Nat.reduceSub, Nat.reducePow, Nat.reduceLeDiff, Int.reduceToNat, Tryd.f7, DD, c0, m1, m3, m5, ge_iff_le, gt_iff_lt, e1, e2, w3, w4, n1, n2, j1, j2, j3]
            refine callK_q annuluslaw6_known.call (kn) rfl rfl ?_
            simp -implicitDefEqProofs only [go_sem, Nat.reduceAdd, Nat.reduceEqDiff, Nat.reduceLT, reduceIte, reduceCtorEq, Int.reduceLE, Int.reduceLT, Int.reduceEq, Int.reduceAdd, Int.reduceMul, Int.reduceSub, Nat.reduceMul, Nat.reduceSub, Nat.reducePow, Nat.reduceLeDiff, Int.reduceToNat, DD, c0, m1, m3, m5, ge_iff_le, gt_iff_lt, e1, e2, w3, w4, n1, n2, j1, j2, j3]
            refine callK_q annuluslaw6_few.call (w1) rfl rfl ?_
            simp -implicitDefEqProofs only [go_sem, Nat.reduceAdd, Nat.reduceEqDiff, Nat.reduceLT, reduceIte, reduceCtorEq, Int.reduceLE, Int.reduceLT, Int.reduceEq, Int.reduceAdd, Int.reduceMul, Int.reduceSub, Nat.reduceMul, Nat.reduceSub, Nat.reducePow, Nat.reduceLeDiff, Int.reduceToNat, DD, c0, m1, m3, m5, ge_iff_le, gt_iff_lt, e1, e2, w3, w4, n1, n2, j1, j2, j3]
            refine callK_q annuluslaw6_few.call (w2) rfl rfl ?_
            simp -implicitDefEqProofs only [go_sem, Nat.reduceAdd, Nat.reduceEqDiff, Nat.reduceLT, reduceIte, reduceCtorEq, Int.reduceLE, Int.reduceLT, Int.reduceEq, Int.reduceAdd, Int.reduceMul, Int.reduceSub, Nat.reduceMul, Nat.reduceSub, Nat.reducePow, Nat.reduceLeDiff, Int.reduceToNat, DD, c0, m1, m3, m5, ge_iff_le, gt_iff_lt, e1, e2, w3, w4, n1, n2, j1, j2, j3]
            refine callK_q dyad_Sign.call (sy) rfl rfl ?_
            simp -implicitDefEqProofs only [go_sem, Nat.reduceAdd, Nat.reduceEqDiff, Nat.reduceLT, reduceIte, reduceCtorEq, Int.reduceLE, Int.reduceLT, Int.reduceEq, Int.reduceAdd, Int.reduceMul, Int.reduceSub, Nat.reduceMul, Nat.reduceSub, Nat.reducePow, Nat.reduceLeDiff, Int.reduceToNat, DD, c0, m1, m3, m5, ge_iff_le, gt_iff_lt, e1, e2, w3, w4, n1, n2, j1, j2, j3]
            refine callK_q quot_Div.call (d1) rfl rfl ?_
            simp -implicitDefEqProofs only [go_sem, Nat.reduceAdd, Nat.reduceEqDiff, Nat.reduceLT, reduceIte, reduceCtorEq, Int.reduceLE, Int.reduceLT, Int.reduceEq, Int.reduceAdd, Int.reduceMul, Int.reduceSub, Nat.reduceMul, Nat.reduceSub, Nat.reducePow, Nat.reduceLeDiff, Int.reduceToNat, DD, c0, m1, m3, m5, ge_iff_le, gt_iff_lt, e1, e2, w3, w4, n1, n2, j1, j2, j3]
            refine callK_q quot_Div.call (d2) rfl rfl ?_
            simp -implicitDefEqProofs only [go_sem, Nat.reduceAdd, Nat.reduceEqDiff, Nat.reduceLT, reduceIte, reduceCtorEq, Int.reduceLE, Int.reduceLT, Int.reduceEq, Int.reduceAdd, Int.reduceMul, Int.reduceSub, Nat.reduceMul, Nat.reduceSub, Nat.reducePow, Nat.reduceLeDiff, Int.reduceToNat, DD, c0, m1, m3, m5, ge_iff_le, gt_iff_lt, e1, e2, w3, w4, n1, n2, j1, j2, j3]
            refine callK_q dyad_Sign.call (sy) rfl rfl ?_
            simp -implicitDefEqProofs only [go_sem, Nat.reduceAdd, Nat.reduceEqDiff, Nat.reduceLT, reduceIte, reduceCtorEq, Int.reduceLE, Int.reduceLT, Int.reduceEq, Int.reduceAdd, Int.reduceMul, Int.reduceSub, Nat.reduceMul, Nat.reduceSub, Nat.reducePow, Nat.reduceLeDiff, Int.reduceToNat, DD, c0, m1, m3, m5, ge_iff_le, gt_iff_lt, e1, e2, w3, w4, n1, n2, j1, j2, j3]
            refine callK_q dyad_Mul.call (u1) rfl rfl ?_
            simp -implicitDefEqProofs only [go_sem, Nat.reduceAdd, Nat.reduceEqDiff, Nat.reduceLT, reduceIte, reduceCtorEq, Int.reduceLE, Int.reduceLT, Int.reduceEq, Int.reduceAdd, Int.reduceMul, Int.reduceSub, Nat.reduceMul, Nat.reduceSub, Nat.reducePow, Nat.reduceLeDiff, Int.reduceToNat, DD, c0, m1, m3, m5, ge_iff_le, gt_iff_lt, e1, e2, w3, w4, n1, n2, j1, j2, j3]
            refine callK_q dyad_Cmp.call (k1) rfl rfl ?_
            simp -implicitDefEqProofs only [go_sem, Nat.reduceAdd, Nat.reduceEqDiff, Nat.reduceLT, reduceIte, reduceCtorEq, Int.reduceLE, Int.reduceLT, Int.reduceEq, Int.reduceAdd, Int.reduceMul, Int.reduceSub, Nat.reduceMul, Nat.reduceSub, Nat.reducePow, Nat.reduceLeDiff, Int.reduceToNat, DD, c0, m1, m3, m5, ge_iff_le, gt_iff_lt, e1, e2, w3, w4, n1, n2, j1, j2, j3]
            refine callK_q dyad_Mul.call (u2) rfl rfl ?_
            simp -implicitDefEqProofs only [go_sem, Nat.reduceAdd, Nat.reduceEqDiff, Nat.reduceLT, reduceIte, reduceCtorEq, Int.reduceLE, Int.reduceLT, Int.reduceEq, Int.reduceAdd, Int.reduceMul, Int.reduceSub, Nat.reduceMul, Nat.reduceSub, Nat.reducePow, Nat.reduceLeDiff, Int.reduceToNat, DD, c0, m1, m3, m5, ge_iff_le, gt_iff_lt, e1, e2, w3, w4, n1, n2, j1, j2, j3]
            refine callK_q dyad_Cmp.call (k2) rfl rfl ?_
            simp -implicitDefEqProofs only [go_sem, Nat.reduceAdd, Nat.reduceEqDiff, Nat.reduceLT, reduceIte, reduceCtorEq, Int.reduceLE, Int.reduceLT, Int.reduceEq, Int.reduceAdd, Int.reduceMul, Int.reduceSub, Nat.reduceMul, Nat.reduceSub, Nat.reducePow, Nat.reduceLeDiff, Int.reduceToNat, DD, c0, m1, m3, m5, ge_iff_le, gt_iff_lt, e1, e2, w3, w4, n1, n2, j1, j2, j3]
            refine callK_q round_Fits.call (f1) rfl rfl ?_
            simp -implicitDefEqProofs only [go_sem, Nat.reduceAdd, Nat.reduceEqDiff, Nat.reduceLT, reduceIte, reduceCtorEq, Int.reduceLE, Int.reduceLT, Int.reduceEq, Int.reduceAdd, Int.reduceMul, Int.reduceSub, Nat.reduceMul, Nat.reduceSub, Nat.reducePow, Nat.reduceLeDiff, Int.reduceToNat, DD, c0, m1, m3, m5, ge_iff_le, gt_iff_lt, e1, e2, w3, w4, n1, n2, j1, j2, j3]
            refine callK_q round_Fits.call (f2) rfl rfl ?_
            simp -implicitDefEqProofs only [go_sem, Nat.reduceAdd, Nat.reduceEqDiff, Nat.reduceLT, reduceIte, reduceCtorEq, Int.reduceLE, Int.reduceLT, Int.reduceEq, Int.reduceAdd, Int.reduceMul, Int.reduceSub, Nat.reduceMul, Nat.reduceSub, Nat.reducePow, Nat.reduceLeDiff, Int.reduceToNat, DD, c0, m1, m3, m5, ge_iff_le, gt_iff_lt, e1, e2, w3, w4, n1, n2, j1, j2, j3]
            refine callK_q dyad_Same.call (s1) rfl rfl ?_
            simp -implicitDefEqProofs only [go_sem, Nat.reduceAdd, Nat.reduceEqDiff, Nat.reduceLT, reduceIte, reduceCtorEq, Int.reduceLE, Int.reduceLT, Int.reduceEq, Int.reduceAdd, Int.reduceMul, Int.reduceSub, Nat.reduceMul, Nat.reduceSub, Nat.reducePow, Nat.reduceLeDiff, Int.reduceToNat, DD, c0, m1, m3, m5, ge_iff_le, gt_iff_lt, e1, e2, w3, w4, n1, n2, j1, j2, j3]
            refine callK_q dyad_Mul.call (u1) rfl rfl ?_
            simp -implicitDefEqProofs only [go_sem, Nat.reduceAdd, Nat.reduceEqDiff, Nat.reduceLT, reduceIte, reduceCtorEq, Int.reduceLE, Int.reduceLT, Int.reduceEq, Int.reduceAdd, Int.reduceMul, Int.reduceSub, Nat.reduceMul, Nat.reduceSub, Nat.reducePow, Nat.reduceLeDiff, Int.reduceToNat, DD, c0, m1, m3, m5, ge_iff_le, gt_iff_lt, e1, e2, w3, w4, n1, n2, j1, j2, j3]
            refine callK_q dyad_Same.call (s2) rfl rfl ?_
            simp -implicitDefEqProofs only [go_sem, Nat.reduceAdd, Nat.reduceEqDiff, Nat.reduceLT, reduceIte, reduceCtorEq, Int.reduceLE, Int.reduceLT, Int.reduceEq, Int.reduceAdd, Int.reduceMul, Int.reduceSub, Nat.reduceMul, Nat.reduceSub, Nat.reducePow, Nat.reduceLeDiff, Int.reduceToNat, DD, c0, m1, m3, m5, ge_iff_le, gt_iff_lt, e1, e2, w3, w4, n1, n2, j1, j2, j3]
            refine callK_q dyad_Mul.call (u2) rfl rfl ?_
            simp -implicitDefEqProofs only [go_sem, Nat.reduceAdd, Nat.reduceEqDiff, Nat.reduceLT, reduceIte, reduceCtorEq, Int.reduceLE, Int.reduceLT, Int.reduceEq, Int.reduceAdd, Int.reduceMul, Int.reduceSub, Nat.reduceMul, Nat.reduceSub, Nat.reducePow, Nat.reduceLeDiff, Int.reduceToNat, DD, c0, m1, m3, m5, ge_iff_le, gt_iff_lt, e1, e2, w3, w4, n1, n2, j1, j2, j3]
            refine callK_q dyad_Same.call (s3) rfl rfl ?_
            simp -implicitDefEqProofs only [go_sem, Nat.reduceAdd, Nat.reduceEqDiff, Nat.reduceLT, reduceIte, reduceCtorEq, Int.reduceLE, Int.reduceLT, Int.reduceEq, Int.reduceAdd, Int.reduceMul, Int.reduceSub, Nat.reduceMul, Nat.reduceSub, Nat.reducePow, Nat.reduceLeDiff, Int.reduceToNat, DD, c0, m1, m3, m5, ge_iff_le, gt_iff_lt, e1, e2, w3, w4, n1, n2, j1, j2, j3]
            refine callK_q dyad_Abs.call (a1) rfl rfl ?_
            simp -implicitDefEqProofs only [go_sem, Nat.reduceAdd, Nat.reduceEqDiff, Nat.reduceLT, reduceIte, reduceCtorEq, Int.reduceLE, Int.reduceLT, Int.reduceEq, Int.reduceAdd, Int.reduceMul, Int.reduceSub, Nat.reduceMul, Nat.reduceSub, Nat.reducePow, Nat.reduceLeDiff, Int.reduceToNat, DD, c0, m1, m3, m5, ge_iff_le, gt_iff_lt, e1, e2, w3, w4, n1, n2, j1, j2, j3]
            refine callK_q quot_Root.call (t1) rfl rfl ?_
            simp -implicitDefEqProofs only [go_sem, Nat.reduceAdd, Nat.reduceEqDiff, Nat.reduceLT, reduceIte, reduceCtorEq, Int.reduceLE, Int.reduceLT, Int.reduceEq, Int.reduceAdd, Int.reduceMul, Int.reduceSub, Nat.reduceMul, Nat.reduceSub, Nat.reducePow, Nat.reduceLeDiff, Int.reduceToNat, DD, c0, m1, m3, m5, ge_iff_le, gt_iff_lt, e1, e2, w3, w4, n1, n2, j1, j2, j3]
            refine callK_q quot_Root.call (t2) rfl rfl ?_
            simp -implicitDefEqProofs only [go_sem, Nat.reduceAdd, Nat.reduceEqDiff, Nat.reduceLT, reduceIte, reduceCtorEq, Int.reduceLE, Int.reduceLT, Int.reduceEq, Int.reduceAdd, Int.reduceMul, Int.reduceSub, Nat.reduceMul, Nat.reduceSub, Nat.reducePow, Nat.reduceLeDiff, Int.reduceToNat, DD, c0, m1, m3, m5, ge_iff_le, gt_iff_lt, e1, e2, w3, w4, n1, n2, j1, j2, j3]
            refine callK_q dyad_Mul.call (v1) rfl rfl ?_
            simp -implicitDefEqProofs only [go_sem, Nat.reduceAdd, Nat.reduceEqDiff, Nat.reduceLT, reduceIte, reduceCtorEq, Int.reduceLE, Int.reduceLT, Int.reduceEq, Int.reduceAdd, Int.reduceMul, Int.reduceSub, Nat.reduceMul, Nat.reduceSub, Nat.reducePow, Nat.reduceLeDiff, Int.reduceToNat, DD, c0, m1, m3, m5, ge_iff_le, gt_iff_lt, e1, e2, w3, w4, n1, n2, j1, j2, j3]
            refine callK_q dyad_Cmp.call (k3) rfl rfl ?_
            simp -implicitDefEqProofs only [go_sem, Nat.reduceAdd, Nat.reduceEqDiff, Nat.reduceLT, reduceIte, reduceCtorEq, Int.reduceLE, Int.reduceLT, Int.reduceEq, Int.reduceAdd, Int.reduceMul, Int.reduceSub, Nat.reduceMul, Nat.reduceSub, Nat.reducePow, Nat.reduceLeDiff, Int.reduceToNat, DD, c0, m1, m3, m5, ge_iff_le, gt_iff_lt, e1, e2, w3, w4, n1, n2, j1, j2, j3]
            refine callK_q dyad_Mul.call (v2) rfl rfl ?_
            simp -implicitDefEqProofs only [go_sem, Nat.reduceAdd, Nat.reduceEqDiff, Nat.reduceLT, reduceIte, reduceCtorEq, Int.reduceLE, Int.reduceLT, Int.reduceEq, Int.reduceAdd, Int.reduceMul, Int.reduceSub, Nat.reduceMul, Nat.reduceSub, Nat.reducePow, Nat.reduceLeDiff, Int.reduceToNat, DD, c0, m1, m3, m5, ge_iff_le, gt_iff_lt, e1, e2, w3, w4, n1, n2, j1, j2, j3]
            refine callK_q dyad_Cmp.call (k4) rfl rfl ?_
            simp -implicitDefEqProofs only [go_sem, Nat.reduceAdd, Nat.reduceEqDiff, Nat.reduceLT, reduceIte, reduceCtorEq, Int.reduceLE, Int.reduceLT, Int.reduceEq, Int.reduceAdd, Int.reduceMul, Int.reduceSub, Nat.reduceMul, Nat.reduceSub, Nat.reducePow, Nat.reduceLeDiff, Int.reduceToNat, DD, c0, m1, m3, m5, ge_iff_le, gt_iff_lt, e1, e2, w3, w4, n1, n2, j1, j2, j3]
            refine callK_q dyad_Sub.call (v3) rfl rfl ?_
            simp -implicitDefEqProofs only [go_sem, Nat.reduceAdd, Nat.reduceEqDiff, Nat.reduceLT, reduceIte, reduceCtorEq, Int.reduceLE, Int.reduceLT, Int.reduceEq, Int.reduceAdd, Int.reduceMul, Int.reduceSub, Nat.reduceMul, Nat.reduceSub, Nat.reducePow, Nat.reduceLeDiff, Int.reduceToNat, DD, c0, m1, m3, m5, ge_iff_le, gt_iff_lt, e1, e2, w3, w4, n1, n2, j1, j2, j3]
            refine callK_q round_Ulp.call (v4) rfl rfl ?_
            simp -implicitDefEqProofs only [go_sem, Nat.reduceAdd, Nat.reduceEqDiff, Nat.reduceLT, reduceIte, reduceCtorEq, Int.reduceLE, Int.reduceLT, Int.reduceEq, Int.reduceAdd, Int.reduceMul, Int.reduceSub, Nat.reduceMul, Nat.reduceSub, Nat.reducePow, Nat.reduceLeDiff, Int.reduceToNat, DD, c0, m1, m3, m5, ge_iff_le, gt_iff_lt, e1, e2, w3, w4, n1, n2, j1, j2, j3]
            refine callK_q dyad_Cmp.call (k5) rfl rfl ?_
            simp -implicitDefEqProofs only [go_sem, Nat.reduceAdd, Nat.reduceEqDiff, Nat.reduceLT, reduceIte, reduceCtorEq, Int.reduceLE, Int.reduceLT, Int.reduceEq, Int.reduceAdd, Int.reduceMul, Int.reduceSub, Nat.reduceMul, Nat.reduceSub, Nat.reducePow, Nat.reduceLeDiff, Int.reduceToNat, DD, c0, m1, m3, m5, ge_iff_le, gt_iff_lt, e1, e2, w3, w4, n1, n2, j1, j2, j3]
            refine callK_q round_Fits.call (f3) rfl rfl ?_
            simp -implicitDefEqProofs only [go_sem, Nat.reduceAdd, Nat.reduceEqDiff, Nat.reduceLT, reduceIte, reduceCtorEq, Int.reduceLE, Int.reduceLT, Int.reduceEq, Int.reduceAdd, Int.reduceMul, Int.reduceSub, Nat.reduceMul, Nat.reduceSub, Nat.reducePow, Nat.reduceLeDiff, Int.reduceToNat, DD, c0, m1, m3, m5, ge_iff_le, gt_iff_lt, e1, e2, w3, w4, n1, n2, j1, j2, j3]
            refine callK_q round_Fits.call (f4) rfl rfl ?_
            simp -implicitDefEqProofs only [go_sem, Nat.reduceAdd, Nat.reduceEqDiff, Nat.reduceLT, reduceIte, reduceCtorEq, Int.reduceLE, Int.reduceLT, Int.reduceEq, Int.reduceAdd, Int.reduceMul, Int.reduceSub, Nat.reduceMul, Nat.reduceSub, Nat.reducePow, Nat.reduceLeDiff, Int.reduceToNat, DD, c0, m1, m3, m5, ge_iff_le, gt_iff_lt, e1, e2, w3, w4, n1, n2, j1, j2, j3]
    · rw [decide_eq_true hf] at w1
      rw [decide_eq_false hf'] at w2
      simp -implicitDefEqProofs only [go_sem, Nat.reduceAdd, Nat.reduceEqDiff, Nat.reduceLT, reduceIte, reduceCtorEq, Int.reduceLE, Int.reduceLT, Int.reduceEq, Int.reduceAdd, Int.reduceMul, Int.reduceSub, Nat.reduceMul, Nat.reduceSub, Nat.reducePow, Nat.reduceLeDiff, Int.reduceToNat, Tryd.f7, DD, gt_iff_lt]
      refine callK_q annuluslaw6_known.call (kn) rfl rfl ?_
      simp -implicitDefEqProofs only [go_sem, Nat.reduceAdd, Nat.reduceEqDiff, Nat.reduceLT, reduceIte, reduceCtorEq, Int.reduceLE, Int.reduceLT, Int.reduceEq, Int.reduceAdd, Int.reduceMul, Int.reduceSub, Nat.reduceMul, Nat.reduceSub, Nat.reducePow, Nat.reduceLeDiff, Int.reduceToNat, DD, gt_iff_lt]
      refine callK_q annuluslaw6_few.call (w1) rfl rfl ?_
      simp -implicitDefEqProofs only [go_sem, Nat.reduceAdd, Nat.reduceEqDiff, Nat.reduceLT, reduceIte, reduceCtorEq, Int.reduceLE, Int.reduceLT, Int.reduceEq, Int.reduceAdd, Int.reduceMul, Int.reduceSub, Nat.reduceMul, Nat.reduceSub, Nat.reducePow, Nat.reduceLeDiff, Int.reduceToNat, DD, gt_iff_lt]
      refine callK_q annuluslaw6_few.call (w2) rfl rfl ?_
      simp -implicitDefEqProofs only [go_sem, Nat.reduceAdd, Nat.reduceEqDiff, Nat.reduceLT, reduceIte, reduceCtorEq, Int.reduceLE, Int.reduceLT, Int.reduceEq, Int.reduceAdd, Int.reduceMul, Int.reduceSub, Nat.reduceMul, Nat.reduceSub, Nat.reducePow, Nat.reduceLeDiff, Int.reduceToNat, DD, gt_iff_lt]
  · rw [decide_eq_false hf] at w1
    simp -implicitDefEqProofs only [go_sem, Nat.reduceAdd, Nat.reduceEqDiff, Nat.reduceLT, reduceIte, reduceCtorEq, Int.reduceLE, Int.reduceLT, Int.reduceEq, Int.reduceAdd, Int.reduceMul, Int.reduceSub, Nat.reduceMul, Nat.reduceSub, Nat.reducePow, Nat.reduceLeDiff, Int.reduceToNat, Tryd.f7, DD, gt_iff_lt]
    refine callK_q annuluslaw6_known.call (kn) rfl rfl ?_
    simp -implicitDefEqProofs only [go_sem, Nat.reduceAdd, Nat.reduceEqDiff, Nat.reduceLT, reduceIte, reduceCtorEq, Int.reduceLE, Int.reduceLT, Int.reduceEq, Int.reduceAdd, Int.reduceMul, Int.reduceSub, Nat.reduceMul, Nat.reduceSub, Nat.reducePow, Nat.reduceLeDiff, Int.reduceToNat, DD, gt_iff_lt]
    refine callK_q annuluslaw6_few.call (w1) rfl rfl ?_
    simp -implicitDefEqProofs only [go_sem, Nat.reduceAdd, Nat.reduceEqDiff, Nat.reduceLT, reduceIte, reduceCtorEq, Int.reduceLE, Int.reduceLT, Int.reduceEq, Int.reduceAdd, Int.reduceMul, Int.reduceSub, Nat.reduceMul, Nat.reduceSub, Nat.reducePow, Nat.reduceLeDiff, Int.reduceToNat, DD, gt_iff_lt]
end Go.Ab

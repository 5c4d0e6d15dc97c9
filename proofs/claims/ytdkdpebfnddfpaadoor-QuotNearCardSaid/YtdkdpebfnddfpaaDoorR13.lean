/- Contracts of this seat's functions (of each call: what it answers), walked over the abstract machine, and the laws of numbers that they want. Conditions: those that each theorem states. -/
import Derived.Test.YtdkdpebfnddfpaaDoorRC
set_option linter.unusedVariables false
set_option maxRecDepth 20000
set_option linter.unusedSimpArgs false
set_option linter.unusedSectionVars false
namespace Go.Ab
open Go.Proofs

set_option maxRecDepth 100000 in
set_option maxHeartbeats 4000000 in
theorem quotNear_sat (n : Bool) (l : List Nat) (e : Int) (hl : Lm l) (n' : Bool) (l' : List Nat) (e' : Int) (hl' : Lm l') (a : Nat) (ha : a < 256) (b : Nat) (hb : b < 256) : Sat CT false 4 [DA n l e, DA n' l' e', .v (.int .u8 (a : Nat)), .v (.int .u8 (b : Nat))] (Bo true) := by
  refine sat_of annuluslaw6_QuotNear.ok (by simp) ?_
  have DD := annuluslaw6_QuotNear.dr
  simp only [drP, drPx, drPt, drR, drS, drT, bodyOf, Tryd.f4, Nat.reduceEqDiff, reduceIte, true_and, and_true] at DD
  have kn := known6_s
  have w1 := few6_s n l e
  have w2 := few6_s n' l' e'
  have m1 : ((a : Int).tmod 100) = ((a % 100 : Nat) : Int) := Int.tmod_eq_emod_of_nonneg (by omega)
  have m2 : ((b : Int).tmod 100) = ((b % 100 : Nat) : Int) := Int.tmod_eq_emod_of_nonneg (by omega)
  obtain ⟨α, hα, hα2⟩ : ∃ α, α = a % 100 ∧ α ≤ 99 := ⟨_, rfl, by omega⟩
  obtain ⟨β, hβ, hβ2⟩ : ∃ β, β = b % 100 ∧ β ≤ 99 := ⟨_, rfl, by omega⟩
  rw [← hα] at m1
  rw [← hβ] at m2
  have m3 : IntKind.i64.wrap (α : Int) = (α : Int) := wrap_id (by omega)
  have m4 : IntKind.i64.wrap (β : Int) = (β : Int) := wrap_id (by omega)
  have m5 : IntKind.i64.wrap ((α : Int) + 1) = ((α + 1 : Nat) : Int) := by rw [wrap_id (by omega)]; omega
  have m6 : IntKind.i64.wrap (((α + 1 : Nat) : Int) + (β : Int)) = ((α + 1 + β : Nat) : Int) := by rw [wrap_id (by omega)]; omega
  obtain ⟨p, hp⟩ : ∃ p, p = α + 1 := ⟨_, rfl⟩
  obtain ⟨q, hq⟩ : ∃ q, q = p + β := ⟨_, rfl⟩
  rw [← hp] at m5 m6
  rw [← hq] at m6
  have hp1 : 1 ≤ p := by omega
  have hp2 : p ≤ 400 := by omega
  have hq1 : 1 ≤ q := by omega
  have hq2 : q ≤ 400 := by omega
  have hpq : p ≤ q := by omega
  clear hp hq hα hβ hα2 hβ2

  by_cases hf : l.length ≤ 20 ∧ -2000 ≤ e ∧ e ≤ 2000
  · by_cases hf' : l'.length ≤ 20 ∧ -2000 ≤ e' ∧ e' ≤ 2000
    · rw [decide_eq_true hf] at w1
      rw [decide_eq_true hf'] at w2
      obtain ⟨r1, x1, x2, x3⟩ := rd_raw (n := n) hl hf.1 hf.2.1 hf.2.2
      obtain ⟨r2, y1, y2, y3⟩ := rd_raw (n := n') hl' hf'.1 hf'.2.1 hf'.2.2
      generalize dv (iv n l) e = x at *
      generalize dv (iv n' l') e' = y at *
      have dx := r1.db
      have dy := r2.db
      have sy := dsign_r r2 (by decide)
      by_cases hy : y = 0
      · have c0 := sg_zero hy
        simp -implicitDefEqProofs only [go_sem, Nat.reduceAdd, Nat.reduceEqDiff, Nat.reduceLT, reduceIte, reduceCtorEq, Int.reduceLE, Int.reduceLT, Int.reduceEq, Int.reduceAdd, Int.reduceMul, Int.reduceSub, Nat.reduceMul, Nat.reduceSub, Nat.reducePow, Nat.reduceLeDiff, Int.reduceToNat, Tryd.f4, DD, c0, gt_iff_lt]
        refine callK_q annuluslaw6_known.call (kn) rfl rfl ?_
        simp -implicitDefEqProofs only [go_sem, Nat.reduceAdd, Nat.reduceEqDiff, Nat.reduceLT, reduceIte, reduceCtorEq, Int.reduceLE, Int.reduceLT, Int.reduceEq, Int.reduceAdd, Int.reduceMul, Int.reduceSub, Nat.reduceMul, Nat.reduceSub, Nat.reducePow, Nat.reduceLeDiff, Int.reduceToNat, DD, c0, gt_iff_lt]
        refine callK_q annuluslaw6_few.call (w1) rfl rfl ?_
        simp -implicitDefEqProofs only [go_sem, Nat.reduceAdd, Nat.reduceEqDiff, Nat.reduceLT, reduceIte, reduceCtorEq, Int.reduceLE, Int.reduceLT, Int.reduceEq, Int.reduceAdd, Int.reduceMul, Int.reduceSub, Nat.reduceMul, Nat.reduceSub, Nat.reducePow, Nat.reduceLeDiff, Int.reduceToNat, DD, c0, gt_iff_lt]
        refine callK_q annuluslaw6_few.call (w2) rfl rfl ?_
        simp -implicitDefEqProofs only [go_sem, Nat.reduceAdd, Nat.reduceEqDiff, Nat.reduceLT, reduceIte, reduceCtorEq, Int.reduceLE, Int.reduceLT, Int.reduceEq, Int.reduceAdd, Int.reduceMul, Int.reduceSub, Nat.reduceMul, Nat.reduceSub, Nat.reducePow, Nat.reduceLeDiff, Int.reduceToNat, DD, c0, gt_iff_lt]
        refine callK_q dyad_Sign.call (sy) rfl rfl ?_
        simp -implicitDefEqProofs only [go_sem, Nat.reduceAdd, Nat.reduceEqDiff, Nat.reduceLT, reduceIte, reduceCtorEq, Int.reduceLE, Int.reduceLT, Int.reduceEq, Int.reduceAdd, Int.reduceMul, Int.reduceSub, Nat.reduceMul, Nat.reduceSub, Nat.reducePow, Nat.reduceLeDiff, Int.reduceToNat, DD, c0, gt_iff_lt]
      · have c0 := sg_ne hy
        by_cases hx : x = 0
        · have d1 := qdiv_x0 r1 r2 hx hy (by decide) (by decide) (p : Nat) 0
          have d2 := qdiv_x0 r1 r2 hx hy (by decide) (by decide) (q : Nat) 0
          have d3 := qdiv_x0 r1 r2 hx hy (by decide) (by decide) (q : Nat) 1
          have d4 := qdiv_x0 r1 r2 hx hy (by decide) (by decide) (p : Nat) 1
          have k1 := dcmp_r rd0 rd0 (by decide) (by decide)
          rw [show (dnum ((0 : Dyadic) - 0)).sign = 0 by rw [show (0 : Dyadic) - 0 = 0 by grind]; rfl] at k1
          have k2 := k1
          have k3 := k1
          simp -implicitDefEqProofs only [go_sem, Nat.reduceAdd, Nat.reduceEqDiff, Nat.reduceLT, reduceIte, reduceCtorEq, Int.reduceLE, Int.reduceLT, Int.reduceEq, Int.reduceAdd, Int.reduceMul, Int.reduceSub, Nat.reduceMul, Nat.reduceSub, Nat.reducePow, Nat.reduceLeDiff, Int.reduceToNat, Tryd.f4, DD, c0, m1, m2, m3, m4, m5, m6, QZ]
          refine callK_q annuluslaw6_known.call (kn) rfl rfl ?_
          simp -implicitDefEqProofs only [go_sem, Nat.reduceAdd, Nat.reduceEqDiff, Nat.reduceLT, reduceIte, reduceCtorEq, Int.reduceLE, Int.reduceLT, Int.reduceEq, Int.reduceAdd, Int.reduceMul, Int.reduceSub, Nat.reduceMul, Nat.reduceSub, Nat.reducePow, Nat.reduceLeDiff, Int.reduceToNat, DD, c0, m1, m2, m3, m4, m5, m6, QZ]
          refine callK_q annuluslaw6_few.call (w1) rfl rfl ?_
          simp -implicitDefEqProofs only [go_sem, Nat.reduceAdd, Nat.reduceEqDiff, Nat.reduceLT, reduceIte, reduceCtorEq, Int.reduceLE, Int.reduceLT, Int.reduceEq, Int.reduceAdd, Int.reduceMul, Int.reduceSub, Nat.reduceMul, Nat.reduceSub, Nat.reducePow, Nat.reduceLeDiff, Int.reduceToNat, DD, c0, m1, m2, m3, m4, m5, m6, QZ]
          refine callK_q annuluslaw6_few.call (w2) rfl rfl ?_
          simp -implicitDefEqProofs only [go_sem, Nat.reduceAdd, Nat.reduceEqDiff, Nat.reduceLT, reduceIte, reduceCtorEq, Int.reduceLE, Int.reduceLT, Int.reduceEq, Int.reduceAdd, Int.reduceMul, Int.reduceSub, Nat.reduceMul, Nat.reduceSub, Nat.reducePow, Nat.reduceLeDiff, Int.reduceToNat, DD, c0, m1, m2, m3, m4, m5, m6, QZ]
          refine callK_q dyad_Sign.call (sy) rfl rfl ?_
          simp -implicitDefEqProofs only [go_sem, Nat.reduceAdd, Nat.reduceEqDiff, Nat.reduceLT, reduceIte, reduceCtorEq, Int.reduceLE, Int.reduceLT, Int.reduceEq, Int.reduceAdd, Int.reduceMul, Int.reduceSub, Nat.reduceMul, Nat.reduceSub, Nat.reducePow, Nat.reduceLeDiff, Int.reduceToNat, DD, c0, m1, m2, m3, m4, m5, m6, QZ]
          refine callK_q quot_Div.call (d1) rfl rfl ?_
          simp -implicitDefEqProofs only [go_sem, Nat.reduceAdd, Nat.reduceEqDiff, Nat.reduceLT, reduceIte, reduceCtorEq, Int.reduceLE, Int.reduceLT, Int.reduceEq, Int.reduceAdd, Int.reduceMul, Int.reduceSub, Nat.reduceMul, Nat.reduceSub, Nat.reducePow, Nat.reduceLeDiff, Int.reduceToNat, DD, c0, m1, m2, m3, m4, m5, m6, QZ]
          refine callK_q quot_Div.call (d2) rfl rfl ?_
          simp -implicitDefEqProofs only [go_sem, Nat.reduceAdd, Nat.reduceEqDiff, Nat.reduceLT, reduceIte, reduceCtorEq, Int.reduceLE, Int.reduceLT, Int.reduceEq, Int.reduceAdd, Int.reduceMul, Int.reduceSub, Nat.reduceMul, Nat.reduceSub, Nat.reducePow, Nat.reduceLeDiff, Int.reduceToNat, DD, c0, m1, m2, m3, m4, m5, m6, QZ]
          refine callK_q quot_Div.call (d3) rfl rfl ?_
          simp -implicitDefEqProofs only [go_sem, Nat.reduceAdd, Nat.reduceEqDiff, Nat.reduceLT, reduceIte, reduceCtorEq, Int.reduceLE, Int.reduceLT, Int.reduceEq, Int.reduceAdd, Int.reduceMul, Int.reduceSub, Nat.reduceMul, Nat.reduceSub, Nat.reducePow, Nat.reduceLeDiff, Int.reduceToNat, DD, c0, m1, m2, m3, m4, m5, m6, QZ]
          refine callK_q quot_Div.call (d4) rfl rfl ?_
          simp -implicitDefEqProofs only [go_sem, Nat.reduceAdd, Nat.reduceEqDiff, Nat.reduceLT, reduceIte, reduceCtorEq, Int.reduceLE, Int.reduceLT, Int.reduceEq, Int.reduceAdd, Int.reduceMul, Int.reduceSub, Nat.reduceMul, Nat.reduceSub, Nat.reducePow, Nat.reduceLeDiff, Int.reduceToNat, DD, c0, m1, m2, m3, m4, m5, m6, QZ]
          refine callK_q dyad_Cmp.call (k1) rfl rfl ?_
          simp -implicitDefEqProofs only [go_sem, Nat.reduceAdd, Nat.reduceEqDiff, Nat.reduceLT, reduceIte, reduceCtorEq, Int.reduceLE, Int.reduceLT, Int.reduceEq, Int.reduceAdd, Int.reduceMul, Int.reduceSub, Nat.reduceMul, Nat.reduceSub, Nat.reducePow, Nat.reduceLeDiff, Int.reduceToNat, DD, c0, m1, m2, m3, m4, m5, m6, QZ]
          refine callK_q dyad_Cmp.call (k2) rfl rfl ?_
          simp -implicitDefEqProofs only [go_sem, Nat.reduceAdd, Nat.reduceEqDiff, Nat.reduceLT, reduceIte, reduceCtorEq, Int.reduceLE, Int.reduceLT, Int.reduceEq, Int.reduceAdd, Int.reduceMul, Int.reduceSub, Nat.reduceMul, Nat.reduceSub, Nat.reducePow, Nat.reduceLeDiff, Int.reduceToNat, DD, c0, m1, m2, m3, m4, m5, m6, QZ]
          refine callK_q dyad_Cmp.call (k3) rfl rfl ?_
          simp -implicitDefEqProofs only [go_sem, Nat.reduceAdd, Nat.reduceEqDiff, Nat.reduceLT, reduceIte, reduceCtorEq, Int.reduceLE, Int.reduceLT, Int.reduceEq, Int.reduceAdd, Int.reduceMul, Int.reduceSub, Nat.reduceMul, Nat.reduceSub, Nat.reducePow, Nat.reduceLeDiff, Int.reduceToNat, DD, c0, m1, m2, m3, m4, m5, m6, QZ]
        · have d1 := qdiv_ok r1 r2 hx hy (by decide) (by decide) (p : Nat) 0
          have d2 := qdiv_ok r1 r2 hx hy (by decide) (by decide) (q : Nat) 0
          have d3 := qdiv_ok r1 r2 hx hy (by decide) (by decide) (q : Nat) 1
          have d4 := qdiv_ok r1 r2 hx hy (by decide) (by decide) (p : Nat) 1
          rw [held_n p hp1 (by omega)] at d1 d4
          rw [held_n q hq1 (by omega)] at d2 d3
          rw [show decide ((0 : Int) = 1) = false from rfl] at d1 d2
          rw [show decide ((1 : Int) = 1) = true from rfl] at d3 d4
          have b1 := dquo_db hx hy x1 y1 x2 y2 hp1 hp2 false
          have b2 := dquo_db hx hy x1 y1 x2 y2 hq1 hq2 false
          have b3 := dquo_db hx hy x1 y1 x2 y2 hq1 hq2 true
          have b4 := dquo_db hx hy x1 y1 x2 y2 hp1 hp2 true
          obtain ⟨n1, n2, n3⟩ := dquo_near hx hy hp1 hpq
          unfold dsg at n1 n2 n3
          have k1 := dcmp_r (RD_D b1) (RD_D b2) (by decide) (by decide)
          have k2 := dcmp_r (RD_D b2) (RD_D b3) (by decide) (by decide)
          have k3 := dcmp_r (RD_D b3) (RD_D b4) (by decide) (by decide)
          generalize dquo x y p false = z1 at *
          generalize dquo x y q false = z2 at *
          generalize dquo x y q true = z3 at *
          generalize dquo x y p true = z4 at *
          simp -implicitDefEqProofs only [go_sem, Nat.reduceAdd, Nat.reduceEqDiff, Nat.reduceLT, reduceIte, reduceCtorEq, Int.reduceLE, Int.reduceLT, Int.reduceEq, Int.reduceAdd, Int.reduceMul, Int.reduceSub, Nat.reduceMul, Nat.reduceSub, Nat.reducePow, Nat.reduceLeDiff, Int.reduceToNat, Tryd.f4, DD, c0, m1, m2, m3, m4, m5, m6, n1, n2, n3]
          refine callK_q annuluslaw6_known.call (kn) rfl rfl ?_
          simp -implicitDefEqProofs only [go_sem, Nat.reduceAdd, Nat.reduceEqDiff, Nat.reduceLT, reduceIte, reduceCtorEq, Int.reduceLE, Int.reduceLT, Int.reduceEq, Int.reduceAdd, Int.reduceMul, Int.reduceSub, Nat.reduceMul, Nat.reduceSub, Nat.reducePow, Nat.reduceLeDiff, Int.reduceToNat, DD, c0, m1, m2, m3, m4, m5, m6, n1, n2, n3]
          refine callK_q annuluslaw6_few.call (w1) rfl rfl ?_
          simp -implicitDefEqProofs only [go_sem, Nat.reduceAdd, Nat.reduceEqDiff, Nat.reduceLT, reduceIte, reduceCtorEq, Int.reduceLE, Int.reduceLT, Int.reduceEq, Int.reduceAdd, Int.reduceMul, Int.reduceSub, Nat.reduceMul, Nat.reduceSub, Nat.reducePow, Nat.reduceLeDiff, Int.reduceToNat, DD, c0, m1, m2, m3, m4, m5, m6, n1, n2, n3]
          refine callK_q annuluslaw6_few.call (w2) rfl rfl ?_
          simp -implicitDefEqProofs only [go_sem, Nat.reduceAdd, Nat.reduceEqDiff, Nat.reduceLT, reduceIte, reduceCtorEq, Int.reduceLE, Int.reduceLT, Int.reduceEq, Int.reduceAdd, Int.reduceMul, Int.reduceSub, Nat.reduceMul, Nat.reduceSub, Nat.reducePow, Nat.reduceLeDiff, Int.reduceToNat, DD, c0, m1, m2, m3, m4, m5, m6, n1, n2, n3]
          refine callK_q dyad_Sign.call (sy) rfl rfl ?_
          simp -implicitDefEqProofs only [go_sem, Nat.reduceAdd, Nat.reduceEqDiff, Nat.reduceLT, reduceIte, reduceCtorEq, Int.reduceLE, Int.reduceLT, Int.reduceEq, Int.reduceAdd, Int.reduceMul, Int.reduceSub, Nat.reduceMul, Nat.reduceSub, Nat.reducePow, Nat.reduceLeDiff, Int.reduceToNat, DD, c0, m1, m2, m3, m4, m5, m6, n1, n2, n3]
          refine callK_q quot_Div.call (d1) rfl rfl ?_
          simp -implicitDefEqProofs only [go_sem, Nat.reduceAdd, Nat.reduceEqDiff, Nat.reduceLT, reduceIte, reduceCtorEq, Int.reduceLE, Int.reduceLT, Int.reduceEq, Int.reduceAdd, Int.reduceMul, Int.reduceSub, Nat.reduceMul, Nat.reduceSub, Nat.reducePow, Nat.reduceLeDiff, Int.reduceToNat, DD, c0, m1, m2, m3, m4, m5, m6, n1, n2, n3]
          refine callK_q quot_Div.call (d2) rfl rfl ?_
          simp -implicitDefEqProofs only [go_sem, Nat.reduceAdd, Nat.reduceEqDiff, Nat.reduceLT, reduceIte, reduceCtorEq, Int.reduceLE, Int.reduceLT, Int.reduceEq, Int.reduceAdd, Int.reduceMul, Int.reduceSub, Nat.reduceMul, Nat.reduceSub, Nat.reducePow, Nat.reduceLeDiff, Int.reduceToNat, DD, c0, m1, m2, m3, m4, m5, m6, n1, n2, n3]
          refine callK_q quot_Div.call (d3) rfl rfl ?_
          simp -implicitDefEqProofs only [go_sem, Nat.reduceAdd, Nat.reduceEqDiff, Nat.reduceLT, reduceIte, reduceCtorEq, Int.reduceLE, Int.reduceLT, Int.reduceEq, Int.reduceAdd, Int.reduceMul, Int.reduceSub, Nat.reduceMul, Nat.reduceSub, Nat.reducePow, Nat.reduceLeDiff, Int.reduceToNat, DD, c0, m1, m2, m3, m4, m5, m6, n1, n2, n3]
          refine callK_q quot_Div.call (d4) rfl rfl ?_
          simp -implicitDefEqProofs only [go_sem, Nat.reduceAdd, Nat.reduceEqDiff, Nat.reduceLT, reduceIte, reduceCtorEq, Int.reduceLE, Int.reduceLT, Int.reduceEq, Int.reduceAdd, Int.reduceMul, Int.reduceSub, Nat.reduceMul, Nat.reduceSub, Nat.reducePow, Nat.reduceLeDiff, Int.reduceToNat, DD, c0, m1, m2, m3, m4, m5, m6, n1, n2, n3]
          refine callK_q dyad_Cmp.call (k1) rfl rfl ?_
          simp -implicitDefEqProofs only [go_sem, Nat.reduceAdd, Nat.reduceEqDiff, Nat.reduceLT, reduceIte, reduceCtorEq, Int.reduceLE, Int.reduceLT, Int.reduceEq, Int.reduceAdd, Int.reduceMul, Int.reduceSub, Nat.reduceMul, Nat.reduceSub, Nat.reducePow, Nat.reduceLeDiff, Int.reduceToNat, DD, c0, m1, m2, m3, m4, m5, m6, n1, n2, n3]
          refine callK_q dyad_Cmp.call (k2) rfl rfl ?_
          simp -implicitDefEqProofs only [go_sem, Nat.reduceAdd, Nat.reduceEqDiff, Nat.reduceLT, reduceIte, reduceCtorEq, Int.reduceLE, Int.reduceLT, Int.reduceEq, Int.reduceAdd, Int.reduceMul, Int.reduceSub, Nat.reduceMul, Nat.reduceSub, Nat.reducePow, Nat.reduceLeDiff, Int.reduceToNat, DD, c0, m1, m2, m3, m4, m5, m6, n1, n2, n3]
          refine callK_q dyad_Cmp.call (k3) rfl rfl ?_
          simp -implicitDefEqProofs only [go_sem, Nat.reduceAdd, Nat.reduceEqDiff, Nat.reduceLT, reduceIte, reduceCtorEq, Int.reduceLE, Int.reduceLT, Int.reduceEq, Int.reduceAdd, Int.reduceMul, Int.reduceSub, Nat.reduceMul, Nat.reduceSub, Nat.reducePow, Nat.reduceLeDiff, Int.reduceToNat, DD, c0, m1, m2, m3, m4, m5, m6, n1, n2, n3]
    · rw [decide_eq_true hf] at w1
      rw [decide_eq_false hf'] at w2
      simp -implicitDefEqProofs only [go_sem, Nat.reduceAdd, Nat.reduceEqDiff, Nat.reduceLT, reduceIte, reduceCtorEq, Int.reduceLE, Int.reduceLT, Int.reduceEq, Int.reduceAdd, Int.reduceMul, Int.reduceSub, Nat.reduceMul, Nat.reduceSub, Nat.reducePow, Nat.reduceLeDiff, Int.reduceToNat, Tryd.f4, DD, gt_iff_lt]
      refine callK_q annuluslaw6_known.call (kn) rfl rfl ?_
      simp -implicitDefEqProofs only [go_sem, Nat.reduceAdd, Nat.reduceEqDiff, Nat.reduceLT, reduceIte, reduceCtorEq, Int.reduceLE, Int.reduceLT, Int.reduceEq, Int.reduceAdd, Int.reduceMul, Int.reduceSub, Nat.reduceMul, Nat.reduceSub, Nat.reducePow, Nat.reduceLeDiff, Int.reduceToNat, DD, gt_iff_lt]
      refine callK_q annuluslaw6_few.call (w1) rfl rfl ?_
      simp -implicitDefEqProofs only [go_sem, Nat.reduceAdd, Nat.reduceEqDiff, Nat.reduceLT, reduceIte, reduceCtorEq, Int.reduceLE, Int.reduceLT, Int.reduceEq, Int.reduceAdd, Int.reduceMul, Int.reduceSub, Nat.reduceMul, Nat.reduceSub, Nat.reducePow, Nat.reduceLeDiff, Int.reduceToNat, DD, gt_iff_lt]
      refine callK_q annuluslaw6_few.call (w2) rfl rfl ?_
      simp -implicitDefEqProofs only [go_sem, Nat.reduceAdd, Nat.reduceEqDiff, Nat.reduceLT, reduceIte, reduceCtorEq, Int.reduceLE, Int.reduceLT, Int.reduceEq, Int.reduceAdd, Int.reduceMul, Int.reduceSub, Nat.reduceMul, Nat.reduceSub, Nat.reducePow, Nat.reduceLeDiff, Int.reduceToNat, DD, gt_iff_lt]
  · rw [decide_eq_false hf] at w1
    simp -implicitDefEqProofs only [go_sem, Nat.reduceAdd, Nat.reduceEqDiff, Nat.reduceLT, reduceIte, reduceCtorEq, Int.reduceLE, Int.reduceLT, Int.reduceEq, Int.reduceAdd, Int.reduceMul, Int.reduceSub, Nat.reduceMul, Nat.reduceSub, Nat.reducePow, Nat.reduceLeDiff, Int.reduceToNat, Tryd.f4, DD, gt_iff_lt]
    refine callK_q annuluslaw6_known.call (kn) rfl rfl ?_
    simp -implicitDefEqProofs only [go_sem, Nat.reduceAdd, Nat.reduceEqDiff, Nat.reduceLT, reduceIte, reduceCtorEq, Int.reduceLE, Int.reduceLT, Int.reduceEq, Int.reduceAdd, Int.reduceMul, Int.reduceSub, Nat.reduceMul, Nat.reduceSub, Nat.reducePow, Nat.reduceLeDiff, Int.reduceToNat, DD, gt_iff_lt]
    refine callK_q annuluslaw6_few.call (w1) rfl rfl ?_
    simp -implicitDefEqProofs only [go_sem, Nat.reduceAdd, Nat.reduceEqDiff, Nat.reduceLT, reduceIte, reduceCtorEq, Int.reduceLE, Int.reduceLT, Int.reduceEq, Int.reduceAdd, Int.reduceMul, Int.reduceSub, Nat.reduceMul, Nat.reduceSub, Nat.reducePow, Nat.reduceLeDiff, Int.reduceToNat, DD, gt_iff_lt]
end Go.Ab

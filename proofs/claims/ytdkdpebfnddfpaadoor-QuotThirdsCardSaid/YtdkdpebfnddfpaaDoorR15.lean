/- Contracts of this seat's functions (of each call: what it answers), walked over the abstract machine, and the laws of numbers that they want. Conditions: those that each theorem states. -/
import Derived.Test.YtdkdpebfnddfpaaDoorRC
set_option linter.unusedVariables false
set_option maxRecDepth 20000
set_option linter.unusedSimpArgs false
set_option linter.unusedSectionVars false
namespace Go.Ab
open Go.Proofs

theorem i8_of {n : Int} (h : (Lit.int .i8 n).wf = true) : -128 ≤ n ∧ n ≤ 127 := by
  simp only [Lit.wf, Bool.and_eq_true, decide_eq_true_eq, IntKind.min, IntKind.max, IntKind.signed, IntKind.bits] at h
  simp at h
  omega
set_option maxRecDepth 100000 in
set_option maxHeartbeats 4000000 in
theorem dv_dbl (E : Int) : dv 1 E * dv 1 1 = dv 2 E := by
  rw [dv_mul, show (2 : Int) = 1 * 2 ^ 1 from rfl, dv_shift]
  rfl
theorem dv12 (E : Int) : dv 2 E ≠ dv 1 E := fun h => by
  have : dv (2 - 1) E = 0 := by rw [← dv_sub, h]; grind
  exact absurd (dv_eq_zero.1 this) (by decide)
set_option maxRecDepth 100000 in
set_option maxHeartbeats 4000000 in
theorem quotThirds_sat (n : Int) (hn : -128 ≤ n ∧ n ≤ 127) (b : Nat) (hb : b < 256) : Sat CT false 5 [.v (.int .i8 n), .v (.int .u8 (b : Nat))] (Bo true) := by
  refine sat_of annuluslaw6_QuotThirds.ok (by simp) ?_
  have DD := annuluslaw6_QuotThirds.dr
  simp only [drP, drPx, drPt, drR, drS, drT, bodyOf, Tryd.f5, Nat.reduceEqDiff, reduceIte, true_and, and_true] at DD
  have kn := known6_s
  have m2 : ((b : Int).tmod 60) = ((b % 60 : Nat) : Int) := Int.tmod_eq_emod_of_nonneg (by omega)
  obtain ⟨β, hβ, hβ2⟩ : ∃ β, β = b % 60 ∧ β ≤ 59 := ⟨_, rfl, by omega⟩
  rw [← hβ] at m2
  have m4 : IntKind.i64.wrap (β : Int) = (β : Int) := wrap_id (by omega)
  have m5 : IntKind.i64.wrap ((β : Int) + 1) = ((β + 1 : Nat) : Int) := by rw [wrap_id (by omega)]; omega
  have m1 : IntKind.i64.wrap n = n := wrap_id (by omega)
  obtain ⟨p, hp⟩ : ∃ p, p = β + 1 := ⟨_, rfl⟩
  rw [← hp] at m5
  have hp1 : 1 ≤ p := by omega
  have hp2 : p ≤ 400 := by omega
  have hp3 : p ≤ 60 := by omega
  have m6 : IntKind.i64.wrap (n - (p : Int)) = n - p := wrap_id (by omega)
  have m7 : IntKind.i64.wrap (n - (p : Int) - 1) = n - p - 1 := wrap_id (by omega)
  have hE : (n - (p : Int) - 1).natAbs ≤ 200 := by omega
  have hnn : n.natAbs ≤ 200 := by omega
  obtain ⟨b1, f1⟩ := few_c 1 (by decide)
  obtain ⟨b3, f3⟩ := few_c 3 (by decide)
  have o1 := rof4_sat 1 (by decide) (by decide)
  have o3 := rof4_sat 3 (by decide) (by decide)
  have sx := rscale4_k b1 n (by omega) (by decide)
  have e1 : dv 1 0 * dv 1 n = dv 1 n := by rw [dv_mul, Int.one_mul, Int.zero_add]
  have e2 : dv 1 0 * dv 1 (n - p - 1) = dv 1 (n - p - 1) := by rw [dv_mul, Int.one_mul, Int.zero_add]
  rw [e1] at sx
  have su := rscale4_k b1 (n - p - 1) (by omega) (by decide)
  rw [e2] at su
  have bx : DB (dv 1 n) 300 := DB.raw (L := 1) (E := 200) (by decide) hnn (by decide)
  have bu : DB (dv 1 (n - p - 1)) 300 := DB.raw (L := 1) (E := 200) (by decide) hE (by decide)
  have bt : DB (dv 2 (n - p - 1)) 300 := DB.raw (L := 2) (E := 200) (by decide) hE (by decide)
  have nx : dv 1 n ≠ 0 := fun z => absurd (dv_eq_zero.1 z) (by decide)
  have n3 : dv 3 0 ≠ 0 := fun z => absurd (dv_eq_zero.1 z) (by decide)
  have fx : Few (dv 1 n) 1 200 := Few.of (by decide) hnn
  have x1 : bl (dnum (dv 1 n)).natAbs ≤ 1300 := Nat.le_trans fx.1 (by decide)
  have x2 : (dexp (dv 1 n)).natAbs ≤ 3000 := Nat.le_trans fx.2 (by decide)
  have y1 : bl (dnum (dv 3 0)).natAbs ≤ 1300 := Nat.le_trans f3.1 (by decide)
  have y2 : (dexp (dv 3 0)).natAbs ≤ 3000 := Nat.le_trans f3.2 (by decide)
  have d1 := qdiv_ok (RD_D bx) (RD_D b3) nx n3 (by decide) (by decide) (p : Nat) 0
  have d2 := qdiv_ok (RD_D bx) (RD_D b3) nx n3 (by decide) (by decide) (p : Nat) 1
  rw [held_n p hp1 (by omega)] at d1 d2
  rw [show decide ((0 : Int) = 1) = false from rfl] at d1
  rw [show decide ((1 : Int) = 1) = true from rfl] at d2
  have q1 := dquo_db nx n3 x1 y1 x2 y2 hp1 hp2 false
  have q2 := dquo_db nx n3 x1 y1 x2 y2 hp1 hp2 true
  have t3 := dquo_third n hp1
  generalize dquo (dv 1 n) (dv 3 0) p false = lo at *
  generalize dquo (dv 1 n) (dv 3 0) p true = hi at *
  have u1 := rmul4 (RD_D q1) (RD_D b3) (by decide) (by decide)
  have u2 := rmul4 (RD_D q2) (RD_D b3) (by decide) (by decide)
  have v1 := rsub4 bx (q1.mul b3) (by decide) (by decide)
  have v2 := rsub4 (q2.mul b3) bx (by decide) (by decide)
  have s2 := rscale4_k bu 1 (by decide) (by decide)
  rw [dv_dbl] at s2
  clear hβ hβ2 hp hp1 hp2 hp3 hE hnn hn hb fx f1 f3 x1 x2 y1 y2 q1 q2 nx n3 e1 e2
  rcases t3 with ⟨g1, g2⟩ | ⟨g1, g2⟩
  · rw [g1] at v1
    rw [g2] at v2
    have k1 := requal4d bu bu (by decide) (by decide)
    have k2 := requal4d bt bt (by decide) (by decide)
    rw [decide_eq_true rfl] at k1 k2
    have sg := rsign4_r (RD_D bu) (by decide)
    have cs : (dnum (dv 1 (n - p - 1))).sign = 1 := by rw [dnum_sign]; rfl
    rw [cs] at sg
    simp -implicitDefEqProofs only [go_sem, Nat.reduceAdd, Nat.reduceEqDiff, Nat.reduceLT, reduceIte, reduceCtorEq, Int.reduceLE, Int.reduceLT, Int.reduceEq, Int.reduceAdd, Int.reduceMul, Int.reduceSub, Nat.reduceMul, Nat.reduceSub, Nat.reducePow, Nat.reduceLeDiff, Int.reduceToNat, Tryd.f5, DD, m1, m2, m4, m5, m6, m7, cs, gt_iff_lt]
    refine callK_q annuluslaw6_known.call (kn) rfl rfl ?_
    simp -implicitDefEqProofs only [go_sem, Nat.reduceAdd, Nat.reduceEqDiff, Nat.reduceLT, reduceIte, reduceCtorEq, Int.reduceLE, Int.reduceLT, Int.reduceEq, Int.reduceAdd, Int.reduceMul, Int.reduceSub, Nat.reduceMul, Nat.reduceSub, Nat.reducePow, Nat.reduceLeDiff, Int.reduceToNat, DD, m1, m2, m4, m5, m6, m7, cs, gt_iff_lt]
    refine callK_q annulusref4_Of.call (o1) rfl rfl ?_
    simp -implicitDefEqProofs only [go_sem, Nat.reduceAdd, Nat.reduceEqDiff, Nat.reduceLT, reduceIte, reduceCtorEq, Int.reduceLE, Int.reduceLT, Int.reduceEq, Int.reduceAdd, Int.reduceMul, Int.reduceSub, Nat.reduceMul, Nat.reduceSub, Nat.reducePow, Nat.reduceLeDiff, Int.reduceToNat, DD, m1, m2, m4, m5, m6, m7, cs, gt_iff_lt]
    refine callK_q annulusref4_Scale.call (sx) rfl rfl ?_
    simp -implicitDefEqProofs only [go_sem, Nat.reduceAdd, Nat.reduceEqDiff, Nat.reduceLT, reduceIte, reduceCtorEq, Int.reduceLE, Int.reduceLT, Int.reduceEq, Int.reduceAdd, Int.reduceMul, Int.reduceSub, Nat.reduceMul, Nat.reduceSub, Nat.reducePow, Nat.reduceLeDiff, Int.reduceToNat, DD, m1, m2, m4, m5, m6, m7, cs, gt_iff_lt]
    refine callK_q annulusref4_Of.call (o3) rfl rfl ?_
    simp -implicitDefEqProofs only [go_sem, Nat.reduceAdd, Nat.reduceEqDiff, Nat.reduceLT, reduceIte, reduceCtorEq, Int.reduceLE, Int.reduceLT, Int.reduceEq, Int.reduceAdd, Int.reduceMul, Int.reduceSub, Nat.reduceMul, Nat.reduceSub, Nat.reducePow, Nat.reduceLeDiff, Int.reduceToNat, DD, m1, m2, m4, m5, m6, m7, cs, gt_iff_lt]
    refine callK_q quot_Div.call (d1) rfl rfl ?_
    simp -implicitDefEqProofs only [go_sem, Nat.reduceAdd, Nat.reduceEqDiff, Nat.reduceLT, reduceIte, reduceCtorEq, Int.reduceLE, Int.reduceLT, Int.reduceEq, Int.reduceAdd, Int.reduceMul, Int.reduceSub, Nat.reduceMul, Nat.reduceSub, Nat.reducePow, Nat.reduceLeDiff, Int.reduceToNat, DD, m1, m2, m4, m5, m6, m7, cs, gt_iff_lt]
    refine callK_q annulusref4_Of.call (o3) rfl rfl ?_
    simp -implicitDefEqProofs only [go_sem, Nat.reduceAdd, Nat.reduceEqDiff, Nat.reduceLT, reduceIte, reduceCtorEq, Int.reduceLE, Int.reduceLT, Int.reduceEq, Int.reduceAdd, Int.reduceMul, Int.reduceSub, Nat.reduceMul, Nat.reduceSub, Nat.reducePow, Nat.reduceLeDiff, Int.reduceToNat, DD, m1, m2, m4, m5, m6, m7, cs, gt_iff_lt]
    refine callK_q quot_Div.call (d2) rfl rfl ?_
    simp -implicitDefEqProofs only [go_sem, Nat.reduceAdd, Nat.reduceEqDiff, Nat.reduceLT, reduceIte, reduceCtorEq, Int.reduceLE, Int.reduceLT, Int.reduceEq, Int.reduceAdd, Int.reduceMul, Int.reduceSub, Nat.reduceMul, Nat.reduceSub, Nat.reducePow, Nat.reduceLeDiff, Int.reduceToNat, DD, m1, m2, m4, m5, m6, m7, cs, gt_iff_lt]
    refine callK_q annulusref4_Of.call (o3) rfl rfl ?_
    simp -implicitDefEqProofs only [go_sem, Nat.reduceAdd, Nat.reduceEqDiff, Nat.reduceLT, reduceIte, reduceCtorEq, Int.reduceLE, Int.reduceLT, Int.reduceEq, Int.reduceAdd, Int.reduceMul, Int.reduceSub, Nat.reduceMul, Nat.reduceSub, Nat.reducePow, Nat.reduceLeDiff, Int.reduceToNat, DD, m1, m2, m4, m5, m6, m7, cs, gt_iff_lt]
    refine callK_q annulusref4_Mul.call (u1) rfl rfl ?_
    simp -implicitDefEqProofs only [go_sem, Nat.reduceAdd, Nat.reduceEqDiff, Nat.reduceLT, reduceIte, reduceCtorEq, Int.reduceLE, Int.reduceLT, Int.reduceEq, Int.reduceAdd, Int.reduceMul, Int.reduceSub, Nat.reduceMul, Nat.reduceSub, Nat.reducePow, Nat.reduceLeDiff, Int.reduceToNat, DD, m1, m2, m4, m5, m6, m7, cs, gt_iff_lt]
    refine callK_q annulusref4_Of.call (o3) rfl rfl ?_
    simp -implicitDefEqProofs only [go_sem, Nat.reduceAdd, Nat.reduceEqDiff, Nat.reduceLT, reduceIte, reduceCtorEq, Int.reduceLE, Int.reduceLT, Int.reduceEq, Int.reduceAdd, Int.reduceMul, Int.reduceSub, Nat.reduceMul, Nat.reduceSub, Nat.reducePow, Nat.reduceLeDiff, Int.reduceToNat, DD, m1, m2, m4, m5, m6, m7, cs, gt_iff_lt]
    refine callK_q annulusref4_Mul.call (u2) rfl rfl ?_
    simp -implicitDefEqProofs only [go_sem, Nat.reduceAdd, Nat.reduceEqDiff, Nat.reduceLT, reduceIte, reduceCtorEq, Int.reduceLE, Int.reduceLT, Int.reduceEq, Int.reduceAdd, Int.reduceMul, Int.reduceSub, Nat.reduceMul, Nat.reduceSub, Nat.reducePow, Nat.reduceLeDiff, Int.reduceToNat, DD, m1, m2, m4, m5, m6, m7, cs, gt_iff_lt]
    refine callK_q annulusref4_Sub.call (v1) rfl rfl ?_
    simp -implicitDefEqProofs only [go_sem, Nat.reduceAdd, Nat.reduceEqDiff, Nat.reduceLT, reduceIte, reduceCtorEq, Int.reduceLE, Int.reduceLT, Int.reduceEq, Int.reduceAdd, Int.reduceMul, Int.reduceSub, Nat.reduceMul, Nat.reduceSub, Nat.reducePow, Nat.reduceLeDiff, Int.reduceToNat, DD, m1, m2, m4, m5, m6, m7, cs, gt_iff_lt]
    refine callK_q annulusref4_Sub.call (v2) rfl rfl ?_
    simp -implicitDefEqProofs only [go_sem, Nat.reduceAdd, Nat.reduceEqDiff, Nat.reduceLT, reduceIte, reduceCtorEq, Int.reduceLE, Int.reduceLT, Int.reduceEq, Int.reduceAdd, Int.reduceMul, Int.reduceSub, Nat.reduceMul, Nat.reduceSub, Nat.reducePow, Nat.reduceLeDiff, Int.reduceToNat, DD, m1, m2, m4, m5, m6, m7, cs, gt_iff_lt]
    refine callK_q annulusref4_Of.call (o1) rfl rfl ?_
    simp -implicitDefEqProofs only [go_sem, Nat.reduceAdd, Nat.reduceEqDiff, Nat.reduceLT, reduceIte, reduceCtorEq, Int.reduceLE, Int.reduceLT, Int.reduceEq, Int.reduceAdd, Int.reduceMul, Int.reduceSub, Nat.reduceMul, Nat.reduceSub, Nat.reducePow, Nat.reduceLeDiff, Int.reduceToNat, DD, m1, m2, m4, m5, m6, m7, cs, gt_iff_lt]
    refine callK_q annulusref4_Scale.call (su) rfl rfl ?_
    simp -implicitDefEqProofs only [go_sem, Nat.reduceAdd, Nat.reduceEqDiff, Nat.reduceLT, reduceIte, reduceCtorEq, Int.reduceLE, Int.reduceLT, Int.reduceEq, Int.reduceAdd, Int.reduceMul, Int.reduceSub, Nat.reduceMul, Nat.reduceSub, Nat.reducePow, Nat.reduceLeDiff, Int.reduceToNat, DD, m1, m2, m4, m5, m6, m7, cs, gt_iff_lt]
    refine callK_q annulusref4_Equal.call (k1) rfl rfl ?_
    simp -implicitDefEqProofs only [go_sem, Nat.reduceAdd, Nat.reduceEqDiff, Nat.reduceLT, reduceIte, reduceCtorEq, Int.reduceLE, Int.reduceLT, Int.reduceEq, Int.reduceAdd, Int.reduceMul, Int.reduceSub, Nat.reduceMul, Nat.reduceSub, Nat.reducePow, Nat.reduceLeDiff, Int.reduceToNat, DD, m1, m2, m4, m5, m6, m7, cs, gt_iff_lt]
    refine callK_q annulusref4_Scale.call (s2) rfl rfl ?_
    simp -implicitDefEqProofs only [go_sem, Nat.reduceAdd, Nat.reduceEqDiff, Nat.reduceLT, reduceIte, reduceCtorEq, Int.reduceLE, Int.reduceLT, Int.reduceEq, Int.reduceAdd, Int.reduceMul, Int.reduceSub, Nat.reduceMul, Nat.reduceSub, Nat.reducePow, Nat.reduceLeDiff, Int.reduceToNat, DD, m1, m2, m4, m5, m6, m7, cs, gt_iff_lt]
    refine callK_q annulusref4_Equal.call (k2) rfl rfl ?_
    simp -implicitDefEqProofs only [go_sem, Nat.reduceAdd, Nat.reduceEqDiff, Nat.reduceLT, reduceIte, reduceCtorEq, Int.reduceLE, Int.reduceLT, Int.reduceEq, Int.reduceAdd, Int.reduceMul, Int.reduceSub, Nat.reduceMul, Nat.reduceSub, Nat.reducePow, Nat.reduceLeDiff, Int.reduceToNat, DD, m1, m2, m4, m5, m6, m7, cs, gt_iff_lt]
    refine callK_q annulusref4_Sign.call (sg) rfl rfl ?_
    simp -implicitDefEqProofs only [go_sem, Nat.reduceAdd, Nat.reduceEqDiff, Nat.reduceLT, reduceIte, reduceCtorEq, Int.reduceLE, Int.reduceLT, Int.reduceEq, Int.reduceAdd, Int.reduceMul, Int.reduceSub, Nat.reduceMul, Nat.reduceSub, Nat.reducePow, Nat.reduceLeDiff, Int.reduceToNat, DD, m1, m2, m4, m5, m6, m7, cs, gt_iff_lt]
  · rw [g1] at v1
    rw [g2] at v2
    have k0 := requal4d bt bu (by decide) (by decide)
    rw [decide_eq_false (dv12 _)] at k0
    have k1 := requal4d bu bu (by decide) (by decide)
    have k2 := requal4d bt bt (by decide) (by decide)
    rw [decide_eq_true rfl] at k1 k2
    have sg := rsign4_r (RD_D bt) (by decide)
    have cs : (dnum (dv 2 (n - p - 1))).sign = 1 := by rw [dnum_sign]; rfl
    rw [cs] at sg
    simp -implicitDefEqProofs only [go_sem, Nat.reduceAdd, Nat.reduceEqDiff, Nat.reduceLT, reduceIte, reduceCtorEq, Int.reduceLE, Int.reduceLT, Int.reduceEq, Int.reduceAdd, Int.reduceMul, Int.reduceSub, Nat.reduceMul, Nat.reduceSub, Nat.reducePow, Nat.reduceLeDiff, Int.reduceToNat, Tryd.f5, DD, m1, m2, m4, m5, m6, m7, cs, gt_iff_lt]
    refine callK_q annuluslaw6_known.call (kn) rfl rfl ?_
    simp -implicitDefEqProofs only [go_sem, Nat.reduceAdd, Nat.reduceEqDiff, Nat.reduceLT, reduceIte, reduceCtorEq, Int.reduceLE, Int.reduceLT, Int.reduceEq, Int.reduceAdd, Int.reduceMul, Int.reduceSub, Nat.reduceMul, Nat.reduceSub, Nat.reducePow, Nat.reduceLeDiff, Int.reduceToNat, DD, m1, m2, m4, m5, m6, m7, cs, gt_iff_lt]
    refine callK_q annulusref4_Of.call (o1) rfl rfl ?_
    simp -implicitDefEqProofs only [go_sem, Nat.reduceAdd, Nat.reduceEqDiff, Nat.reduceLT, reduceIte, reduceCtorEq, Int.reduceLE, Int.reduceLT, Int.reduceEq, Int.reduceAdd, Int.reduceMul, Int.reduceSub, Nat.reduceMul, Nat.reduceSub, Nat.reducePow, Nat.reduceLeDiff, Int.reduceToNat, DD, m1, m2, m4, m5, m6, m7, cs, gt_iff_lt]
    refine callK_q annulusref4_Scale.call (sx) rfl rfl ?_
    simp -implicitDefEqProofs only [go_sem, Nat.reduceAdd, Nat.reduceEqDiff, Nat.reduceLT, reduceIte, reduceCtorEq, Int.reduceLE, Int.reduceLT, Int.reduceEq, Int.reduceAdd, Int.reduceMul, Int.reduceSub, Nat.reduceMul, Nat.reduceSub, Nat.reducePow, Nat.reduceLeDiff, Int.reduceToNat, DD, m1, m2, m4, m5, m6, m7, cs, gt_iff_lt]
    refine callK_q annulusref4_Of.call (o3) rfl rfl ?_
    simp -implicitDefEqProofs only [go_sem, Nat.reduceAdd, Nat.reduceEqDiff, Nat.reduceLT, reduceIte, reduceCtorEq, Int.reduceLE, Int.reduceLT, Int.reduceEq, Int.reduceAdd, Int.reduceMul, Int.reduceSub, Nat.reduceMul, Nat.reduceSub, Nat.reducePow, Nat.reduceLeDiff, Int.reduceToNat, DD, m1, m2, m4, m5, m6, m7, cs, gt_iff_lt]
    refine callK_q quot_Div.call (d1) rfl rfl ?_
    simp -implicitDefEqProofs only [go_sem, Nat.reduceAdd, Nat.reduceEqDiff, Nat.reduceLT, reduceIte, reduceCtorEq, Int.reduceLE, Int.reduceLT, Int.reduceEq, Int.reduceAdd, Int.reduceMul, Int.reduceSub, Nat.reduceMul, Nat.reduceSub, Nat.reducePow, Nat.reduceLeDiff, Int.reduceToNat, DD, m1, m2, m4, m5, m6, m7, cs, gt_iff_lt]
    refine callK_q annulusref4_Of.call (o3) rfl rfl ?_
    simp -implicitDefEqProofs only [go_sem, Nat.reduceAdd, Nat.reduceEqDiff, Nat.reduceLT, reduceIte, reduceCtorEq, Int.reduceLE, Int.reduceLT, Int.reduceEq, Int.reduceAdd, Int.reduceMul, Int.reduceSub, Nat.reduceMul, Nat.reduceSub, Nat.reducePow, Nat.reduceLeDiff, Int.reduceToNat, DD, m1, m2, m4, m5, m6, m7, cs, gt_iff_lt]
    refine callK_q quot_Div.call (d2) rfl rfl ?_
    simp -implicitDefEqProofs only [go_sem, Nat.reduceAdd, Nat.reduceEqDiff, Nat.reduceLT, reduceIte, reduceCtorEq, Int.reduceLE, Int.reduceLT, Int.reduceEq, Int.reduceAdd, Int.reduceMul, Int.reduceSub, Nat.reduceMul, Nat.reduceSub, Nat.reducePow, Nat.reduceLeDiff, Int.reduceToNat, DD, m1, m2, m4, m5, m6, m7, cs, gt_iff_lt]
    refine callK_q annulusref4_Of.call (o3) rfl rfl ?_
    simp -implicitDefEqProofs only [go_sem, Nat.reduceAdd, Nat.reduceEqDiff, Nat.reduceLT, reduceIte, reduceCtorEq, Int.reduceLE, Int.reduceLT, Int.reduceEq, Int.reduceAdd, Int.reduceMul, Int.reduceSub, Nat.reduceMul, Nat.reduceSub, Nat.reducePow, Nat.reduceLeDiff, Int.reduceToNat, DD, m1, m2, m4, m5, m6, m7, cs, gt_iff_lt]
    refine callK_q annulusref4_Mul.call (u1) rfl rfl ?_
    simp -implicitDefEqProofs only [go_sem, Nat.reduceAdd, Nat.reduceEqDiff, Nat.reduceLT, reduceIte, reduceCtorEq, Int.reduceLE, Int.reduceLT, Int.reduceEq, Int.reduceAdd, Int.reduceMul, Int.reduceSub, Nat.reduceMul, Nat.reduceSub, Nat.reducePow, Nat.reduceLeDiff, Int.reduceToNat, DD, m1, m2, m4, m5, m6, m7, cs, gt_iff_lt]
    refine callK_q annulusref4_Of.call (o3) rfl rfl ?_
    simp -implicitDefEqProofs only [go_sem, Nat.reduceAdd, Nat.reduceEqDiff, Nat.reduceLT, reduceIte, reduceCtorEq, Int.reduceLE, Int.reduceLT, Int.reduceEq, Int.reduceAdd, Int.reduceMul, Int.reduceSub, Nat.reduceMul, Nat.reduceSub, Nat.reducePow, Nat.reduceLeDiff, Int.reduceToNat, DD, m1, m2, m4, m5, m6, m7, cs, gt_iff_lt]
    refine callK_q annulusref4_Mul.call (u2) rfl rfl ?_
    simp -implicitDefEqProofs only [go_sem, Nat.reduceAdd, Nat.reduceEqDiff, Nat.reduceLT, reduceIte, reduceCtorEq, Int.reduceLE, Int.reduceLT, Int.reduceEq, Int.reduceAdd, Int.reduceMul, Int.reduceSub, Nat.reduceMul, Nat.reduceSub, Nat.reducePow, Nat.reduceLeDiff, Int.reduceToNat, DD, m1, m2, m4, m5, m6, m7, cs, gt_iff_lt]
    refine callK_q annulusref4_Sub.call (v1) rfl rfl ?_
    simp -implicitDefEqProofs only [go_sem, Nat.reduceAdd, Nat.reduceEqDiff, Nat.reduceLT, reduceIte, reduceCtorEq, Int.reduceLE, Int.reduceLT, Int.reduceEq, Int.reduceAdd, Int.reduceMul, Int.reduceSub, Nat.reduceMul, Nat.reduceSub, Nat.reducePow, Nat.reduceLeDiff, Int.reduceToNat, DD, m1, m2, m4, m5, m6, m7, cs, gt_iff_lt]
    refine callK_q annulusref4_Sub.call (v2) rfl rfl ?_
    simp -implicitDefEqProofs only [go_sem, Nat.reduceAdd, Nat.reduceEqDiff, Nat.reduceLT, reduceIte, reduceCtorEq, Int.reduceLE, Int.reduceLT, Int.reduceEq, Int.reduceAdd, Int.reduceMul, Int.reduceSub, Nat.reduceMul, Nat.reduceSub, Nat.reducePow, Nat.reduceLeDiff, Int.reduceToNat, DD, m1, m2, m4, m5, m6, m7, cs, gt_iff_lt]
    refine callK_q annulusref4_Of.call (o1) rfl rfl ?_
    simp -implicitDefEqProofs only [go_sem, Nat.reduceAdd, Nat.reduceEqDiff, Nat.reduceLT, reduceIte, reduceCtorEq, Int.reduceLE, Int.reduceLT, Int.reduceEq, Int.reduceAdd, Int.reduceMul, Int.reduceSub, Nat.reduceMul, Nat.reduceSub, Nat.reducePow, Nat.reduceLeDiff, Int.reduceToNat, DD, m1, m2, m4, m5, m6, m7, cs, gt_iff_lt]
    refine callK_q annulusref4_Scale.call (su) rfl rfl ?_
    simp -implicitDefEqProofs only [go_sem, Nat.reduceAdd, Nat.reduceEqDiff, Nat.reduceLT, reduceIte, reduceCtorEq, Int.reduceLE, Int.reduceLT, Int.reduceEq, Int.reduceAdd, Int.reduceMul, Int.reduceSub, Nat.reduceMul, Nat.reduceSub, Nat.reducePow, Nat.reduceLeDiff, Int.reduceToNat, DD, m1, m2, m4, m5, m6, m7, cs, gt_iff_lt]
    refine callK_q annulusref4_Equal.call (k0) rfl rfl ?_
    simp -implicitDefEqProofs only [go_sem, Nat.reduceAdd, Nat.reduceEqDiff, Nat.reduceLT, reduceIte, reduceCtorEq, Int.reduceLE, Int.reduceLT, Int.reduceEq, Int.reduceAdd, Int.reduceMul, Int.reduceSub, Nat.reduceMul, Nat.reduceSub, Nat.reducePow, Nat.reduceLeDiff, Int.reduceToNat, DD, m1, m2, m4, m5, m6, m7, cs, gt_iff_lt]
    refine callK_q annulusref4_Equal.call (k1) rfl rfl ?_
    simp -implicitDefEqProofs only [go_sem, Nat.reduceAdd, Nat.reduceEqDiff, Nat.reduceLT, reduceIte, reduceCtorEq, Int.reduceLE, Int.reduceLT, Int.reduceEq, Int.reduceAdd, Int.reduceMul, Int.reduceSub, Nat.reduceMul, Nat.reduceSub, Nat.reducePow, Nat.reduceLeDiff, Int.reduceToNat, DD, m1, m2, m4, m5, m6, m7, cs, gt_iff_lt]
    refine callK_q annulusref4_Scale.call (s2) rfl rfl ?_
    simp -implicitDefEqProofs only [go_sem, Nat.reduceAdd, Nat.reduceEqDiff, Nat.reduceLT, reduceIte, reduceCtorEq, Int.reduceLE, Int.reduceLT, Int.reduceEq, Int.reduceAdd, Int.reduceMul, Int.reduceSub, Nat.reduceMul, Nat.reduceSub, Nat.reducePow, Nat.reduceLeDiff, Int.reduceToNat, DD, m1, m2, m4, m5, m6, m7, cs, gt_iff_lt]
    refine callK_q annulusref4_Equal.call (k2) rfl rfl ?_
    simp -implicitDefEqProofs only [go_sem, Nat.reduceAdd, Nat.reduceEqDiff, Nat.reduceLT, reduceIte, reduceCtorEq, Int.reduceLE, Int.reduceLT, Int.reduceEq, Int.reduceAdd, Int.reduceMul, Int.reduceSub, Nat.reduceMul, Nat.reduceSub, Nat.reducePow, Nat.reduceLeDiff, Int.reduceToNat, DD, m1, m2, m4, m5, m6, m7, cs, gt_iff_lt]
    refine callK_q annulusref4_Sign.call (sg) rfl rfl ?_
    simp -implicitDefEqProofs only [go_sem, Nat.reduceAdd, Nat.reduceEqDiff, Nat.reduceLT, reduceIte, reduceCtorEq, Int.reduceLE, Int.reduceLT, Int.reduceEq, Int.reduceAdd, Int.reduceMul, Int.reduceSub, Nat.reduceMul, Nat.reduceSub, Nat.reducePow, Nat.reduceLeDiff, Int.reduceToNat, DD, m1, m2, m4, m5, m6, m7, cs, gt_iff_lt]
end Go.Ab

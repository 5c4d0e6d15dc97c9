/- Contracts of this seat's functions (of each call: what it answers), walked over the abstract machine, and the laws of numbers that they want. Conditions: those that each theorem states. -/
import Derived.Test.YtdkdpebfnddfpaaDoorR3
set_option linter.unusedVariables false
set_option maxRecDepth 20000
set_option linter.unusedSimpArgs false
set_option linter.unusedSectionVars false
namespace Go.Ab
open Go.Proofs

theorem le_lt {a b c : Nat} (h : a ≤ b) (g : b < c) : a < c := Nat.lt_of_le_of_lt h g
theorem rdiv4_num {a c P N mq : Nat} {ex ey : Int} (ha : a ≤ 1300) (hc : c ≤ 1300) (hex : ex.natAbs ≤ 3000) (hey : ey.natAbs ≤ 3000) (hP : P ≤ 400) (hN : N = P + 3 + c - a) (f4 : mq ≤ N + a + 2) :
    IntKind.i64.wrap ((P : Int) + 3) = ((P + 3 : Nat) : Int) ∧ IntKind.i64.wrap (((P + 3 : Nat) : Int) + (c : Nat)) = ((P + 3 + c : Nat) : Int) ∧
    IntKind.i64.wrap (((P + 3 + c : Nat) : Int) - (a : Nat)) = ((P + 3 + c : Nat) : Int) - (a : Nat) ∧ max 0 (((P + 3 + c : Nat) : Int) - (a : Nat)) = (N : Int) ∧
    N ≤ 1703 ∧ IntKind.i64.wrap (ex - ey) = ex - ey ∧ IntKind.i64.wrap (ex - ey - (N : Int)) = ex - ey - N ∧ IntKind.i64.wrap (ex - ey - (N : Int) - 1) = ex - ey - N - 1 ∧
    (ex - ey - N - 1).natAbs ≤ 10000 ∧ mq ≤ 4000 := by
  refine ⟨?_, ?_, ?_, ?_, ?_, ?_, ?_, ?_, ?_, ?_⟩
  · rw [wrap_id (by omega)]; omega
  · rw [wrap_id (by omega)]; omega
  · exact wrap_id (by omega)
  · omega
  · omega
  · exact wrap_id (by omega)
  · exact wrap_id (by omega)
  · exact wrap_id (by omega)
  · omega
  · omega
theorem sticky_blq {X C : Nat} : bl (X / C) ≤ bl (sticky X C) := bl_mono (by unfold sticky; omega)
theorem sticky_0 {X C : Nat} (h : X % C = 0) : X / C * 2 = sticky X C := by unfold sticky; rw [if_pos h]; omega
theorem sticky_1 {X C : Nat} (h : ¬ X % C = 0) : X / C * 2 + 1 = sticky X C := by unfold sticky; rw [if_neg h]; omega
theorem heldP_held (p : Int) : heldP ((heldP p : Nat) : Int) = heldP p := by unfold heldP; omega
theorem m01 (m : Int) : (if m = 1 then (1 : Int) else 0) = 0 ∨ (if m = 1 then (1 : Int) else 0) = 1 := by split <;> simp
theorem m01d (m : Int) : decide ((if m = 1 then (1 : Int) else 0) = 1) = decide (m = 1) := by by_cases q : m = 1 <;> simp [q]
theorem len_pos {n : Nat} (h : n ≠ 0) : 0 < ((lim n).length : Int) := by have := lim_nz h; omega
theorem len_0 {n : Nat} (h : n = 0) : ((lim n).length : Int) = 0 := by rw [h, lim_zero]; rfl
theorem limit_1 : Lm [1] := fun x hx => by simp at hx; rw [hx]; decide
section
variable {a b : AV} {x y : Dyadic} {B C : Nat}
set_option maxHeartbeats 2000000 in
theorem rdiv4_ok (hx : DB x B) (hy : DB y C) (h0 : x ≠ 0) (h1 : y ≠ 0) (hbx : bl (dnum x).natAbs ≤ 1300) (hby : bl (dnum y).natAbs ≤ 1300) (hex : (dexp x).natAbs ≤ 3000) (hey : (dexp y).natAbs ≤ 3000) (hB : B ≤ 20000) (hC : C ≤ 20000)
    (p m : Int) (hp : heldP p ≤ 400) : Sat CT false 14 [DI x, DI y, I64 p, I64 m] (.tup [DI (dquo x y (heldP p) (decide (m = 1))), I64 0]) := by
  refine sat_of annulusref4_Div.ok (by simp) ?_
  have DD := annulusref4_Div.dr
  simp only [drP, drPx, drPt, drR, drS, drT, bodyOf, Tryd.f14, Nat.reduceEqDiff, reduceIte, true_and, and_true] at DD
  have s1 := rsign4_r (RD_D hy) hC
  have s2 := rsign4_r (RD_D hx) hB
  have c1 := sg_ne h1
  have c2 := sg_ne h0
  obtain ⟨_, hP, hP1, _⟩ := heldP_v p
  have hs := side_sat m
  have to0 := fun (d : Dyadic) (D : Nat) (hd' : DB d D) (hD : D ≤ 15000) (hn : d ≠ 0) => rto_sat hd' hD (heldP p : Nat) _ (m01 m) hn
  simp only [m01d, heldP_held] at to0
  generalize (if m = 1 then (1 : Int) else 0) = mm at *
  generalize heldP p = P at *
  have lx : (lim (dnum x).natAbs).length ≤ 1300 / 32 + 1 := lim_bl hbx
  have ly : (lim (dnum y).natAbs).length ≤ 1300 / 32 + 1 := lim_bl hby
  have b1 := rbits_sat (lim (dnum y).natAbs) (Lm_lim _) (le_lt ly (by decide))
  have b2 := rbits_sat (lim (dnum x).natAbs) (Lm_lim _) (le_lt lx (by decide))
  rw [nv_lim] at b1 b2
  obtain ⟨N, hN⟩ : ∃ N, N = P + 3 + bl (dnum y).natAbs - bl (dnum x).natAbs := ⟨_, rfl⟩
  obtain ⟨s, hss⟩ : ∃ s, s = (decide (dnum x < 0) != decide (dnum y < 0)) := ⟨_, rfl⟩
  obtain ⟨mq, hmq⟩ : ∃ mq, mq = sticky ((dnum x).natAbs * 2 ^ N) (dnum y).natAbs := ⟨_, rfl⟩
  obtain ⟨f1, f2, f3, f4⟩ := dquo_to h0 h1 hP1 (decide (m = 1)) hN hmq hss rfl
  obtain ⟨w1, w2, w3, w4, n1, w5, w6, w7, n2, n3⟩ := rdiv4_num hbx hby hex hey hp hN f4
  have q1 := rshl_sat (lim (dnum x).natAbs) (N : Int) (Lm_lim _) (le_lt lx (by decide))
  rw [nv_lim, shN_nat (k := N) (Nat.le_trans n1 (by decide)) rfl] at q1
  have z1 := lim_shl_len (Lm_lim (dnum x).natAbs) lx N
  have z2 : 1300 / 32 + 1 + (N / 32 + 1) ≤ 1300 / 32 + 1 + (1703 / 32 + 1) := Nat.add_le_add_left (Nat.add_le_add_right (Nat.div_le_div_right n1) 1) _
  rw [nv_lim] at z1
  have ny : (dnum y).natAbs ≠ 0 := fun e => h1 (dnum_zero.1 (Int.natAbs_eq_zero.1 e))
  have q2 := rdiv_sat (lim ((dnum x).natAbs * 2 ^ N)) (lim (dnum y).natAbs) (Lm_lim _) (Lm_lim _) (le_lt (Nat.le_trans z1 z2) (by decide)) (le_lt ly (by decide)) (by rw [nv_lim]; exact ny)
  rw [nv_lim, nv_lim] at q2
  have lm : (lim mq).length ≤ 4000 / 32 + 1 := lim_bl n3
  have lt : Lt2 mq 4000 := lt2_bl n3
  have dq : DB (dv (sg s mq) (dexp x - dexp y - N - 1)) 14000 := DB.sg (L := 4000) (K := 10000) lt n2 (by decide)
  have x1 := exact_sat s (lim mq) (dexp x - dexp y - N - 1) (Lm_lim _) (le_lt lm (by decide)) (lt2_lim lt (by decide)) (Nat.le_trans n2 (by decide))
  rw [iv_sg] at x1
  have t1 := to0 _ _ dq (by decide) f2
  rw [f1] at t1
  have bq : bl ((dnum x).natAbs * 2 ^ N / (dnum y).natAbs) ≤ 4000 := Nat.le_trans (by rw [hmq]; exact sticky_blq) n3
  have lq : (lim ((dnum x).natAbs * 2 ^ N / (dnum y).natAbs)).length ≤ 4000 / 32 + 1 := lim_bl bq
  have q3 := rshl_sat (lim ((dnum x).natAbs * 2 ^ N / (dnum y).natAbs)) 1 (Lm_lim _) (le_lt lq (by decide))
  rw [nv_lim, show shN 1 = 1 from rfl, Nat.pow_one] at q3
  have z3 := lim_shl_len (Lm_lim ((dnum x).natAbs * 2 ^ N / (dnum y).natAbs)) lq 1
  rw [nv_lim, Nat.pow_one] at z3
  have q4 := radd_sat (lim ((dnum x).natAbs * 2 ^ N / (dnum y).natAbs * 2)) [1] (Lm_lim _) limit_1 (le_lt z3 (by decide)) (by decide)
  rw [nv_lim, nv_one] at q4
  have hs9 : (!(decide (dnum x < 0) == decide (dnum y < 0))) = s := hss.symm
  clear z1 z2 z3 lq bq to0 dq lt lm f1 f2 f3 f4 n1 n2 n3 hbx hby hex hey hB hC hx hy lx ly hN hP1 hp
  by_cases hr : (dnum x).natAbs * 2 ^ N % (dnum y).natAbs = 0
  · have c3 := len_0 hr
    rw [sticky_0 hr, ← hmq] at q3
    simp -implicitDefEqProofs only [go_sem, Nat.reduceAdd, Nat.reduceEqDiff, Nat.reduceLT, reduceIte, reduceCtorEq, Int.reduceLE, Int.reduceLT, Int.reduceEq, Int.reduceAdd, Int.reduceMul, Int.reduceSub, Nat.reduceMul, Nat.reduceSub, Nat.reducePow, Nat.reduceLeDiff, Int.reduceToNat, Tryd.f14, DD, c1, c2, c3, hP, w1, w2, w3, w4, w5, w6, w7, hs9]
    refine callK_q annulusref4_Sign.call (s1) rfl rfl ?_
    simp -implicitDefEqProofs only [go_sem, Nat.reduceAdd, Nat.reduceEqDiff, Nat.reduceLT, reduceIte, reduceCtorEq, Int.reduceLE, Int.reduceLT, Int.reduceEq, Int.reduceAdd, Int.reduceMul, Int.reduceSub, Nat.reduceMul, Nat.reduceSub, Nat.reducePow, Nat.reduceLeDiff, Int.reduceToNat, DD, c1, c2, c3, hP, w1, w2, w3, w4, w5, w6, w7, hs9]
    refine callK_q annulusref4_Sign.call (s2) rfl rfl ?_
    simp -implicitDefEqProofs only [go_sem, Nat.reduceAdd, Nat.reduceEqDiff, Nat.reduceLT, reduceIte, reduceCtorEq, Int.reduceLE, Int.reduceLT, Int.reduceEq, Int.reduceAdd, Int.reduceMul, Int.reduceSub, Nat.reduceMul, Nat.reduceSub, Nat.reducePow, Nat.reduceLeDiff, Int.reduceToNat, DD, c1, c2, c3, hP, w1, w2, w3, w4, w5, w6, w7, hs9]
    refine callK_q annulusref1_Bits.call (b1) rfl rfl ?_
    simp -implicitDefEqProofs only [go_sem, Nat.reduceAdd, Nat.reduceEqDiff, Nat.reduceLT, reduceIte, reduceCtorEq, Int.reduceLE, Int.reduceLT, Int.reduceEq, Int.reduceAdd, Int.reduceMul, Int.reduceSub, Nat.reduceMul, Nat.reduceSub, Nat.reducePow, Nat.reduceLeDiff, Int.reduceToNat, DD, c1, c2, c3, hP, w1, w2, w3, w4, w5, w6, w7, hs9]
    refine callK_q annulusref1_Bits.call (b2) rfl rfl ?_
    simp -implicitDefEqProofs only [go_sem, Nat.reduceAdd, Nat.reduceEqDiff, Nat.reduceLT, reduceIte, reduceCtorEq, Int.reduceLE, Int.reduceLT, Int.reduceEq, Int.reduceAdd, Int.reduceMul, Int.reduceSub, Nat.reduceMul, Nat.reduceSub, Nat.reducePow, Nat.reduceLeDiff, Int.reduceToNat, DD, c1, c2, c3, hP, w1, w2, w3, w4, w5, w6, w7, hs9]
    refine callK_q annulusref1_Shl.call (q1) rfl rfl ?_
    simp -implicitDefEqProofs only [go_sem, Nat.reduceAdd, Nat.reduceEqDiff, Nat.reduceLT, reduceIte, reduceCtorEq, Int.reduceLE, Int.reduceLT, Int.reduceEq, Int.reduceAdd, Int.reduceMul, Int.reduceSub, Nat.reduceMul, Nat.reduceSub, Nat.reducePow, Nat.reduceLeDiff, Int.reduceToNat, DD, c1, c2, c3, hP, w1, w2, w3, w4, w5, w6, w7, hs9]
    refine callK_q annulusref1_Div.call (q2) rfl rfl ?_
    simp -implicitDefEqProofs only [go_sem, Nat.reduceAdd, Nat.reduceEqDiff, Nat.reduceLT, reduceIte, reduceCtorEq, Int.reduceLE, Int.reduceLT, Int.reduceEq, Int.reduceAdd, Int.reduceMul, Int.reduceSub, Nat.reduceMul, Nat.reduceSub, Nat.reducePow, Nat.reduceLeDiff, Int.reduceToNat, DD, c1, c2, c3, hP, w1, w2, w3, w4, w5, w6, w7, hs9]
    refine callK_q annulusref1_Shl.call (q3) rfl rfl ?_
    simp -implicitDefEqProofs only [go_sem, Nat.reduceAdd, Nat.reduceEqDiff, Nat.reduceLT, reduceIte, reduceCtorEq, Int.reduceLE, Int.reduceLT, Int.reduceEq, Int.reduceAdd, Int.reduceMul, Int.reduceSub, Nat.reduceMul, Nat.reduceSub, Nat.reducePow, Nat.reduceLeDiff, Int.reduceToNat, DD, c1, c2, c3, hP, w1, w2, w3, w4, w5, w6, w7, hs9]
    refine callK_q annulusref4_exact.call (x1) rfl rfl ?_
    simp -implicitDefEqProofs only [go_sem, Nat.reduceAdd, Nat.reduceEqDiff, Nat.reduceLT, reduceIte, reduceCtorEq, Int.reduceLE, Int.reduceLT, Int.reduceEq, Int.reduceAdd, Int.reduceMul, Int.reduceSub, Nat.reduceMul, Nat.reduceSub, Nat.reducePow, Nat.reduceLeDiff, Int.reduceToNat, DD, c1, c2, c3, hP, w1, w2, w3, w4, w5, w6, w7, hs9]
    refine callK_q annulusref4_side.call (hs) rfl rfl ?_
    simp -implicitDefEqProofs only [go_sem, Nat.reduceAdd, Nat.reduceEqDiff, Nat.reduceLT, reduceIte, reduceCtorEq, Int.reduceLE, Int.reduceLT, Int.reduceEq, Int.reduceAdd, Int.reduceMul, Int.reduceSub, Nat.reduceMul, Nat.reduceSub, Nat.reducePow, Nat.reduceLeDiff, Int.reduceToNat, DD, c1, c2, c3, hP, w1, w2, w3, w4, w5, w6, w7, hs9]
    refine callK_q annulusref4_To.call (t1) rfl rfl ?_
    simp -implicitDefEqProofs only [go_sem, Nat.reduceAdd, Nat.reduceEqDiff, Nat.reduceLT, reduceIte, reduceCtorEq, Int.reduceLE, Int.reduceLT, Int.reduceEq, Int.reduceAdd, Int.reduceMul, Int.reduceSub, Nat.reduceMul, Nat.reduceSub, Nat.reducePow, Nat.reduceLeDiff, Int.reduceToNat, DD, c1, c2, c3, hP, w1, w2, w3, w4, w5, w6, w7, hs9]
  · have c3 := len_pos hr
    rw [sticky_1 hr, ← hmq] at q4
    simp -implicitDefEqProofs only [go_sem, Nat.reduceAdd, Nat.reduceEqDiff, Nat.reduceLT, reduceIte, reduceCtorEq, Int.reduceLE, Int.reduceLT, Int.reduceEq, Int.reduceAdd, Int.reduceMul, Int.reduceSub, Nat.reduceMul, Nat.reduceSub, Nat.reducePow, Nat.reduceLeDiff, Int.reduceToNat, Tryd.f14, DD, c1, c2, c3, hP, w1, w2, w3, w4, w5, w6, w7, hs9]
    refine callK_q annulusref4_Sign.call (s1) rfl rfl ?_
    simp -implicitDefEqProofs only [go_sem, Nat.reduceAdd, Nat.reduceEqDiff, Nat.reduceLT, reduceIte, reduceCtorEq, Int.reduceLE, Int.reduceLT, Int.reduceEq, Int.reduceAdd, Int.reduceMul, Int.reduceSub, Nat.reduceMul, Nat.reduceSub, Nat.reducePow, Nat.reduceLeDiff, Int.reduceToNat, DD, c1, c2, c3, hP, w1, w2, w3, w4, w5, w6, w7, hs9]
    refine callK_q annulusref4_Sign.call (s2) rfl rfl ?_
    simp -implicitDefEqProofs only [go_sem, Nat.reduceAdd, Nat.reduceEqDiff, Nat.reduceLT, reduceIte, reduceCtorEq, Int.reduceLE, Int.reduceLT, Int.reduceEq, Int.reduceAdd, Int.reduceMul, Int.reduceSub, Nat.reduceMul, Nat.reduceSub, Nat.reducePow, Nat.reduceLeDiff, Int.reduceToNat, DD, c1, c2, c3, hP, w1, w2, w3, w4, w5, w6, w7, hs9]
    refine callK_q annulusref1_Bits.call (b1) rfl rfl ?_
    simp -implicitDefEqProofs only [go_sem, Nat.reduceAdd, Nat.reduceEqDiff, Nat.reduceLT, reduceIte, reduceCtorEq, Int.reduceLE, Int.reduceLT, Int.reduceEq, Int.reduceAdd, Int.reduceMul, Int.reduceSub, Nat.reduceMul, Nat.reduceSub, Nat.reducePow, Nat.reduceLeDiff, Int.reduceToNat, DD, c1, c2, c3, hP, w1, w2, w3, w4, w5, w6, w7, hs9]
    refine callK_q annulusref1_Bits.call (b2) rfl rfl ?_
    simp -implicitDefEqProofs only [go_sem, Nat.reduceAdd, Nat.reduceEqDiff, Nat.reduceLT, reduceIte, reduceCtorEq, Int.reduceLE, Int.reduceLT, Int.reduceEq, Int.reduceAdd, Int.reduceMul, Int.reduceSub, Nat.reduceMul, Nat.reduceSub, Nat.reducePow, Nat.reduceLeDiff, Int.reduceToNat, DD, c1, c2, c3, hP, w1, w2, w3, w4, w5, w6, w7, hs9]
    refine callK_q annulusref1_Shl.call (q1) rfl rfl ?_
    simp -implicitDefEqProofs only [go_sem, Nat.reduceAdd, Nat.reduceEqDiff, Nat.reduceLT, reduceIte, reduceCtorEq, Int.reduceLE, Int.reduceLT, Int.reduceEq, Int.reduceAdd, Int.reduceMul, Int.reduceSub, Nat.reduceMul, Nat.reduceSub, Nat.reducePow, Nat.reduceLeDiff, Int.reduceToNat, DD, c1, c2, c3, hP, w1, w2, w3, w4, w5, w6, w7, hs9]
    refine callK_q annulusref1_Div.call (q2) rfl rfl ?_
    simp -implicitDefEqProofs only [go_sem, Nat.reduceAdd, Nat.reduceEqDiff, Nat.reduceLT, reduceIte, reduceCtorEq, Int.reduceLE, Int.reduceLT, Int.reduceEq, Int.reduceAdd, Int.reduceMul, Int.reduceSub, Nat.reduceMul, Nat.reduceSub, Nat.reducePow, Nat.reduceLeDiff, Int.reduceToNat, DD, c1, c2, c3, hP, w1, w2, w3, w4, w5, w6, w7, hs9]
    refine callK_q annulusref1_Shl.call (q3) rfl rfl ?_
    simp -implicitDefEqProofs only [go_sem, Nat.reduceAdd, Nat.reduceEqDiff, Nat.reduceLT, reduceIte, reduceCtorEq, Int.reduceLE, Int.reduceLT, Int.reduceEq, Int.reduceAdd, Int.reduceMul, Int.reduceSub, Nat.reduceMul, Nat.reduceSub, Nat.reducePow, Nat.reduceLeDiff, Int.reduceToNat, DD, c1, c2, c3, hP, w1, w2, w3, w4, w5, w6, w7, hs9]
    refine callK_q annulusref1_Add.call (q4) rfl rfl ?_
    simp -implicitDefEqProofs only [go_sem, Nat.reduceAdd, Nat.reduceEqDiff, Nat.reduceLT, reduceIte, reduceCtorEq, Int.reduceLE, Int.reduceLT, Int.reduceEq, Int.reduceAdd, Int.reduceMul, Int.reduceSub, Nat.reduceMul, Nat.reduceSub, Nat.reducePow, Nat.reduceLeDiff, Int.reduceToNat, DD, c1, c2, c3, hP, w1, w2, w3, w4, w5, w6, w7, hs9]
    refine callK_q annulusref4_exact.call (x1) rfl rfl ?_
    simp -implicitDefEqProofs only [go_sem, Nat.reduceAdd, Nat.reduceEqDiff, Nat.reduceLT, reduceIte, reduceCtorEq, Int.reduceLE, Int.reduceLT, Int.reduceEq, Int.reduceAdd, Int.reduceMul, Int.reduceSub, Nat.reduceMul, Nat.reduceSub, Nat.reducePow, Nat.reduceLeDiff, Int.reduceToNat, DD, c1, c2, c3, hP, w1, w2, w3, w4, w5, w6, w7, hs9]
    refine callK_q annulusref4_side.call (hs) rfl rfl ?_
    simp -implicitDefEqProofs only [go_sem, Nat.reduceAdd, Nat.reduceEqDiff, Nat.reduceLT, reduceIte, reduceCtorEq, Int.reduceLE, Int.reduceLT, Int.reduceEq, Int.reduceAdd, Int.reduceMul, Int.reduceSub, Nat.reduceMul, Nat.reduceSub, Nat.reducePow, Nat.reduceLeDiff, Int.reduceToNat, DD, c1, c2, c3, hP, w1, w2, w3, w4, w5, w6, w7, hs9]
    refine callK_q annulusref4_To.call (t1) rfl rfl ?_
    simp -implicitDefEqProofs only [go_sem, Nat.reduceAdd, Nat.reduceEqDiff, Nat.reduceLT, reduceIte, reduceCtorEq, Int.reduceLE, Int.reduceLT, Int.reduceEq, Int.reduceAdd, Int.reduceMul, Int.reduceSub, Nat.reduceMul, Nat.reduceSub, Nat.reducePow, Nat.reduceLeDiff, Int.reduceToNat, DD, c1, c2, c3, hP, w1, w2, w3, w4, w5, w6, w7, hs9]
end
end Go.Ab

/- Contracts of this seat's functions (of each call: what it answers), walked over the abstract machine, and the laws of numbers that they want. Conditions: those that each theorem states. -/
import Derived.Test.YtchgjgffikdcnaaDoorN19
set_option linter.unusedVariables false
set_option linter.unusedSimpArgs false
namespace Go.Ab
open Go.Proofs

theorem sq_sum (x y : Nat) : (x + y) * (x + y) = x * x + y * y + x * y * 2 ^ 1 := by
  rw [Nat.pow_one, Nat.mul_add, Nat.add_mul, Nat.add_mul, Nat.mul_comm y x]; omega
theorem sq_le (x y : Nat) : x * x ≤ (x + y) * (x + y) := Nat.mul_self_le_mul_self (Nat.le_add_right _ _)
theorem sq_diff (x y : Nat) : (x + y) * (x + y) - x * x = (x + y + x) * y := by
  rw [Nat.mul_add, Nat.add_mul, Nat.add_mul, Nat.add_mul, Nat.add_mul, Nat.mul_comm y x]; omega
theorem isq_sq (x : Nat) : isq (x * x) = x := (isq_eq (Nat.le_refl _) (Nat.mul_self_lt_mul_self (Nat.lt_succ_self x))).symm
theorem bl_shl {x : Nat} (h : x ≠ 0) (n : Nat) : bl (x * 2 ^ n) = bl x + n := by
  have h1 := bl_pos h
  refine bl_eq ?_ ?_ (by omega)
  · rw [show bl x + n - 1 = bl x - 1 + n by omega, Nat.pow_add]; exact Nat.mul_le_mul_right _ (bl_le h)
  · rw [Nat.pow_add]; exact Nat.mul_lt_mul_of_pos_right (bl_lt x) (Nat.two_pow_pos n)
theorem tz_shl {x : Nat} (h : x ≠ 0) (n : Nat) : tz (x * 2 ^ n) = tz x + n := by
  obtain ⟨t, m, rfl⟩ := tz_ex h
  rw [tz_eq, Nat.mul_right_comm, ← Nat.pow_add, tz_eq]
theorem bl_ones (i : Nat) : bl (2 ^ i - 1) = i := by
  cases i with
  | zero => rfl
  | succ i =>
    have := Nat.two_pow_pos i
    refine bl_eq ?_ ?_ (by omega)
    · rw [Nat.add_sub_cancel, Nat.pow_succ]; omega
    · rw [Nat.pow_succ]; omega
theorem ones_div (k j : Nat) : bl ((2 ^ k - 1) / 2 ^ j) = k - j ∧ bl ((2 ^ k - 1) % 2 ^ j) = min k j := by
  have hj := Nat.two_pow_pos j
  by_cases h : j ≤ k
  · obtain ⟨d, rfl⟩ := Nat.exists_eq_add_of_le h
    have hd2 := Nat.two_pow_pos d
    have e : 2 ^ (j + d) - 1 = (2 ^ j - 1) + 2 ^ j * (2 ^ d - 1) := by
      rw [Nat.pow_add]
      obtain ⟨q, hq⟩ : ∃ q, 2 ^ d = q + 1 := ⟨2 ^ d - 1, by omega⟩
      rw [hq, Nat.mul_add, Nat.add_sub_cancel]
      omega
    rw [e, Nat.add_mul_div_left _ _ hj, Nat.div_eq_of_lt (by omega), Nat.zero_add, Nat.add_mul_mod_self_left, Nat.mod_eq_of_lt (by omega), bl_ones, bl_ones]
    exact ⟨by omega, by omega⟩
  · have hlt : 2 ^ k - 1 < 2 ^ j := by
      have := Nat.pow_lt_pow_right (a := 2) (by omega) (show k < j by omega)
      omega
    rw [Nat.div_eq_of_lt hlt, Nat.mod_eq_of_lt hlt, bl_ones]
    exact ⟨by rw [bl_zero]; omega, by omega⟩
theorem tz_pow (k : Nat) : tz (2 ^ k) = k := by
  have := tz_eq k 0
  simpa using this
theorem tz_ones (k : Nat) : tz (2 ^ (k + 1) - 1) = 0 := by
  have h := Nat.two_pow_pos k
  have := tz_eq 0 (2 ^ k - 1)
  rw [Nat.pow_zero, Nat.one_mul] at this
  rwa [show 2 ^ (k + 1) - 1 = 2 * (2 ^ k - 1) + 1 by rw [Nat.pow_succ]; omega]
theorem ones_sq (n : Nat) : (2 ^ (n + 1) - 1) * (2 ^ (n + 1) - 1) = (2 ^ n - 1) * 2 ^ (n + 1 + 1) + 1 := by
  have h := Nat.two_pow_pos n
  rw [Nat.pow_succ 2 (n + 1), Nat.pow_succ 2 n]
  obtain ⟨q, hq⟩ : ∃ q, 2 ^ n = q + 1 := ⟨2 ^ n - 1, by omega⟩
  rw [hq, Nat.add_sub_cancel, show (q + 1) * 2 - 1 = 2 * q + 1 by omega]
  simp only [Nat.mul_add, Nat.add_mul, Nat.mul_one, Nat.one_mul, Nat.mul_assoc, Nat.mul_comm, Nat.mul_left_comm]
  omega
set_option maxRecDepth 100000 in
set_option maxHeartbeats 4000000 in
theorem natSquares_sat (a b : List Nat) (ha : Lm a) (hb : Lm b) : Sat CT false 9 [U32 a, U32 b] (Bo true) := by
  refine sat_of annuluslaw1_NatSquares.ok (by simp) ?_
  have DD := annuluslaw1_NatSquares.dr
  simp only [drP, drR, bodyOf, Tryd.f9, true_and, and_true] at DD
  simp only [go_sem, Nat.reduceAdd, Nat.reduceEqDiff, Nat.reduceLT, reduceIte, reduceCtorEq, Int.reduceLE, Int.reduceLT, Int.reduceEq, Int.reduceAdd, Int.reduceMul, Int.reduceSub, Nat.reduceMul, Nat.reduceSub, Nat.reducePow, Nat.reduceLeDiff, Int.reduceToNat, Tryd.f9, DD]
  refine callK_of false annuluslaw1_known.call (known_sat) rfl rfl (by simp [ownOK, hd, fzH, fzArgs, fz]) (by simp [U32, isD_u32, isD_v, isD_nil]) ?_
  simp only [go_sem, Nat.reduceAdd, Nat.reduceEqDiff, Nat.reduceLT, reduceIte, reduceCtorEq, Int.reduceLE, Int.reduceLT, Int.reduceEq, Int.reduceAdd, Int.reduceMul, Int.reduceSub, Nat.reduceMul, Nat.reduceSub, Nat.reducePow, Nat.reduceLeDiff, Int.reduceToNat, DD, x_app, x_ga0, x_gas, x_gan, Int.cast_ofNat_Int, eq_self, Int.zero_lt_one, Bool.not_false, Bool.not_true, beq_self_eq_true]
  by_cases hfa : a.length ≤ 24
  · skip
    refine callK_of false annuluslaw1_few.call (few_yes a hfa) rfl rfl (by simp [ownOK, hd, fzH, fzArgs, fz]) (by simp [U32, isD_u32, isD_v, isD_nil]) ?_
    simp only [go_sem, Nat.reduceAdd, Nat.reduceEqDiff, Nat.reduceLT, reduceIte, reduceCtorEq, Int.reduceLE, Int.reduceLT, Int.reduceEq, Int.reduceAdd, Int.reduceMul, Int.reduceSub, Nat.reduceMul, Nat.reduceSub, Nat.reducePow, Nat.reduceLeDiff, Int.reduceToNat, DD, x_app, x_ga0, x_gas, x_gan, Int.cast_ofNat_Int, eq_self, Int.zero_lt_one, Bool.not_false, Bool.not_true, beq_self_eq_true]
    by_cases hfb : b.length ≤ 24
    · skip
      refine callK_of false annuluslaw1_few.call (few_yes b hfb) rfl rfl (by simp [ownOK, hd, fzH, fzArgs, fz]) (by simp [U32, isD_u32, isD_v, isD_nil]) ?_
      simp only [go_sem, Nat.reduceAdd, Nat.reduceEqDiff, Nat.reduceLT, reduceIte, reduceCtorEq, Int.reduceLE, Int.reduceLT, Int.reduceEq, Int.reduceAdd, Int.reduceMul, Int.reduceSub, Nat.reduceMul, Nat.reduceSub, Nat.reducePow, Nat.reduceLeDiff, Int.reduceToNat, DD, x_app, x_ga0, x_gas, x_gan, Int.cast_ofNat_Int, eq_self, Int.zero_lt_one, Bool.not_false, Bool.not_true, beq_self_eq_true]
      have la := lim_nv_len ha hfa (Nat.le_refl _)
      have lb := lim_nv_len hb hfb (Nat.le_refl _)
      have g1 : (lim (nv a + nv b)).length ≤ 25 := lim_add_len la lb
      have g2 : (lim ((nv a + nv b) * (nv a + nv b))).length ≤ 50 := lim_mul_len g1 g1
      have g3 : (lim (nv a * nv a)).length ≤ 48 := lim_mul_len la la
      have g4 : (lim (nv b * nv b)).length ≤ 48 := lim_mul_len lb lb
      have g5 : (lim (nv a * nv b)).length ≤ 48 := lim_mul_len la lb
      have g6 : (lim (nv a * nv a + nv b * nv b)).length ≤ 49 := lim_add_len g3 g4
      have g7 : (lim (nv a * nv b * 2 ^ 1)).length ≤ 49 := lim_mul_len (M := 1) g5 (lim_length_le (by decide))
      have g8 : (lim (nv a + nv b + nv a)).length ≤ 26 := lim_add_len g1 (Nat.le_trans la (by omega))
      have g9 : (lim ((nv a + nv b + nv a) * nv b)).length ≤ 50 := lim_mul_len g8 lb
      have a1 := add_v ha hb rfl rfl (by omega) (by omega)
      have m1 := mul_v (Lm_lim (nv a + nv b)) (Lm_lim (nv a + nv b)) (nv_lim _) (nv_lim _) (by omega) (by omega)
      have m2 := mul_v ha ha rfl rfl (by omega) (by omega)
      have m3 := mul_v hb hb rfl rfl (by omega) (by omega)
      have a2 := add_v (Lm_lim (nv a * nv a)) (Lm_lim (nv b * nv b)) (nv_lim _) (nv_lim _) (by omega) (by omega)
      have m4 := mul_v ha hb rfl rfl (by omega) (by omega)
      have h1 := shl_v (k := 1) (Lm_lim (nv a * nv b)) (nv_lim _) (by omega) (by omega)
      have a3 := add_v (Lm_lim (nv a * nv a + nv b * nv b)) (Lm_lim (nv a * nv b * 2 ^ 1)) (nv_lim _) (nv_lim _) (by omega) (by omega)
      rw [← sq_sum] at a3
      have s1 := sub_v (Lm_lim (nv a + nv b)) ha (nv_lim _) rfl (by omega) (by omega) (Nat.le_add_right _ _)
      rw [Nat.add_sub_cancel_left] at s1
      have s2 := sub_v (Lm_lim ((nv a + nv b) * (nv a + nv b))) (Lm_lim (nv a * nv a)) (nv_lim _) (nv_lim _) (by omega) (by omega) (sq_le _ _)
      rw [sq_diff] at s2
      have a4 := add_v (Lm_lim (nv a + nv b)) ha (nv_lim _) rfl (by omega) (by omega)
      have m5 := mul_v (Lm_lim (nv a + nv b + nv a)) hb (nv_lim _) rfl (by omega) (by omega)
      have y1 := same_v (x := (nv a + nv b) * (nv a + nv b)) rfl (by omega)
      have t1 := trim_v hb rfl (by omega)
      have y2 := same_v (x := nv b) rfl (by omega)
      have y3 := same_v (x := (nv a + nv b + nv a) * nv b) rfl (by omega)
      have r1 := root_v (Lm_lim (nv a * nv a)) (nv_lim _) (by omega)
      rw [isq_sq] at r1
      have t2 := trim_v ha rfl (by omega)
      have y4 := same_v (x := nv a) rfl (by omega)
      refine callK_of false nat_Add.call (a1) rfl rfl (by simp [ownOK, hd, fzH, fzArgs, fz]) (by simp [U32, isD_u32, isD_v, isD_nil]) ?_
      simp only [go_sem, Nat.reduceAdd, Nat.reduceEqDiff, Nat.reduceLT, reduceIte, reduceCtorEq, Int.reduceLE, Int.reduceLT, Int.reduceEq, Int.reduceAdd, Int.reduceMul, Int.reduceSub, Nat.reduceMul, Nat.reduceSub, Nat.reducePow, Nat.reduceLeDiff, Int.reduceToNat, DD, x_app, x_ga0, x_gas, x_gan, Int.cast_ofNat_Int, eq_self, Int.zero_lt_one, Bool.not_false, Bool.not_true, beq_self_eq_true]
      refine callK_of false nat_Mul.call (m1) rfl rfl (by simp [ownOK, hd, fzH, fzArgs, fz]) (by simp [U32, isD_u32, isD_v, isD_nil]) ?_
      simp only [go_sem, Nat.reduceAdd, Nat.reduceEqDiff, Nat.reduceLT, reduceIte, reduceCtorEq, Int.reduceLE, Int.reduceLT, Int.reduceEq, Int.reduceAdd, Int.reduceMul, Int.reduceSub, Nat.reduceMul, Nat.reduceSub, Nat.reducePow, Nat.reduceLeDiff, Int.reduceToNat, DD, x_app, x_ga0, x_gas, x_gan, Int.cast_ofNat_Int, eq_self, Int.zero_lt_one, Bool.not_false, Bool.not_true, beq_self_eq_true]
      refine callK_of false nat_Mul.call (m2) rfl rfl (by simp [ownOK, hd, fzH, fzArgs, fz]) (by simp [U32, isD_u32, isD_v, isD_nil]) ?_
      simp only [go_sem, Nat.reduceAdd, Nat.reduceEqDiff, Nat.reduceLT, reduceIte, reduceCtorEq, Int.reduceLE, Int.reduceLT, Int.reduceEq, Int.reduceAdd, Int.reduceMul, Int.reduceSub, Nat.reduceMul, Nat.reduceSub, Nat.reducePow, Nat.reduceLeDiff, Int.reduceToNat, DD, x_app, x_ga0, x_gas, x_gan, Int.cast_ofNat_Int, eq_self, Int.zero_lt_one, Bool.not_false, Bool.not_true, beq_self_eq_true]
      refine callK_of false nat_Mul.call (m3) rfl rfl (by simp [ownOK, hd, fzH, fzArgs, fz]) (by simp [U32, isD_u32, isD_v, isD_nil]) ?_
      simp only [go_sem, Nat.reduceAdd, Nat.reduceEqDiff, Nat.reduceLT, reduceIte, reduceCtorEq, Int.reduceLE, Int.reduceLT, Int.reduceEq, Int.reduceAdd, Int.reduceMul, Int.reduceSub, Nat.reduceMul, Nat.reduceSub, Nat.reducePow, Nat.reduceLeDiff, Int.reduceToNat, DD, x_app, x_ga0, x_gas, x_gan, Int.cast_ofNat_Int, eq_self, Int.zero_lt_one, Bool.not_false, Bool.not_true, beq_self_eq_true]
      refine callK_of false nat_Add.call (a2) rfl rfl (by simp [ownOK, hd, fzH, fzArgs, fz]) (by simp [U32, isD_u32, isD_v, isD_nil]) ?_
      simp only [go_sem, Nat.reduceAdd, Nat.reduceEqDiff, Nat.reduceLT, reduceIte, reduceCtorEq, Int.reduceLE, Int.reduceLT, Int.reduceEq, Int.reduceAdd, Int.reduceMul, Int.reduceSub, Nat.reduceMul, Nat.reduceSub, Nat.reducePow, Nat.reduceLeDiff, Int.reduceToNat, DD, x_app, x_ga0, x_gas, x_gan, Int.cast_ofNat_Int, eq_self, Int.zero_lt_one, Bool.not_false, Bool.not_true, beq_self_eq_true]
      refine callK_of false nat_Mul.call (m4) rfl rfl (by simp [ownOK, hd, fzH, fzArgs, fz]) (by simp [U32, isD_u32, isD_v, isD_nil]) ?_
      simp only [go_sem, Nat.reduceAdd, Nat.reduceEqDiff, Nat.reduceLT, reduceIte, reduceCtorEq, Int.reduceLE, Int.reduceLT, Int.reduceEq, Int.reduceAdd, Int.reduceMul, Int.reduceSub, Nat.reduceMul, Nat.reduceSub, Nat.reducePow, Nat.reduceLeDiff, Int.reduceToNat, DD, x_app, x_ga0, x_gas, x_gan, Int.cast_ofNat_Int, eq_self, Int.zero_lt_one, Bool.not_false, Bool.not_true, beq_self_eq_true]
      refine callK_of false nat_Shl.call (h1) rfl rfl (by simp [ownOK, hd, fzH, fzArgs, fz]) (by simp [U32, isD_u32, isD_v, isD_nil]) ?_
      simp only [go_sem, Nat.reduceAdd, Nat.reduceEqDiff, Nat.reduceLT, reduceIte, reduceCtorEq, Int.reduceLE, Int.reduceLT, Int.reduceEq, Int.reduceAdd, Int.reduceMul, Int.reduceSub, Nat.reduceMul, Nat.reduceSub, Nat.reducePow, Nat.reduceLeDiff, Int.reduceToNat, DD, x_app, x_ga0, x_gas, x_gan, Int.cast_ofNat_Int, eq_self, Int.zero_lt_one, Bool.not_false, Bool.not_true, beq_self_eq_true]
      refine callK_of false nat_Add.call (a3) rfl rfl (by simp [ownOK, hd, fzH, fzArgs, fz]) (by simp [U32, isD_u32, isD_v, isD_nil]) ?_
      simp only [go_sem, Nat.reduceAdd, Nat.reduceEqDiff, Nat.reduceLT, reduceIte, reduceCtorEq, Int.reduceLE, Int.reduceLT, Int.reduceEq, Int.reduceAdd, Int.reduceMul, Int.reduceSub, Nat.reduceMul, Nat.reduceSub, Nat.reducePow, Nat.reduceLeDiff, Int.reduceToNat, DD, x_app, x_ga0, x_gas, x_gan, Int.cast_ofNat_Int, eq_self, Int.zero_lt_one, Bool.not_false, Bool.not_true, beq_self_eq_true]
      refine callK_of false nat_Sub.call (s1) rfl rfl (by simp [ownOK, hd, fzH, fzArgs, fz]) (by simp [U32, isD_u32, isD_v, isD_nil]) ?_
      simp only [go_sem, Nat.reduceAdd, Nat.reduceEqDiff, Nat.reduceLT, reduceIte, reduceCtorEq, Int.reduceLE, Int.reduceLT, Int.reduceEq, Int.reduceAdd, Int.reduceMul, Int.reduceSub, Nat.reduceMul, Nat.reduceSub, Nat.reducePow, Nat.reduceLeDiff, Int.reduceToNat, DD, x_app, x_ga0, x_gas, x_gan, Int.cast_ofNat_Int, eq_self, Int.zero_lt_one, Bool.not_false, Bool.not_true, beq_self_eq_true]
      refine callK_of false nat_Mul.call (m1) rfl rfl (by simp [ownOK, hd, fzH, fzArgs, fz]) (by simp [U32, isD_u32, isD_v, isD_nil]) ?_
      simp only [go_sem, Nat.reduceAdd, Nat.reduceEqDiff, Nat.reduceLT, reduceIte, reduceCtorEq, Int.reduceLE, Int.reduceLT, Int.reduceEq, Int.reduceAdd, Int.reduceMul, Int.reduceSub, Nat.reduceMul, Nat.reduceSub, Nat.reducePow, Nat.reduceLeDiff, Int.reduceToNat, DD, x_app, x_ga0, x_gas, x_gan, Int.cast_ofNat_Int, eq_self, Int.zero_lt_one, Bool.not_false, Bool.not_true, beq_self_eq_true]
      refine callK_of false nat_Mul.call (m2) rfl rfl (by simp [ownOK, hd, fzH, fzArgs, fz]) (by simp [U32, isD_u32, isD_v, isD_nil]) ?_
      simp only [go_sem, Nat.reduceAdd, Nat.reduceEqDiff, Nat.reduceLT, reduceIte, reduceCtorEq, Int.reduceLE, Int.reduceLT, Int.reduceEq, Int.reduceAdd, Int.reduceMul, Int.reduceSub, Nat.reduceMul, Nat.reduceSub, Nat.reducePow, Nat.reduceLeDiff, Int.reduceToNat, DD, x_app, x_ga0, x_gas, x_gan, Int.cast_ofNat_Int, eq_self, Int.zero_lt_one, Bool.not_false, Bool.not_true, beq_self_eq_true]
      refine callK_of false nat_Sub.call (s2) rfl rfl (by simp [ownOK, hd, fzH, fzArgs, fz]) (by simp [U32, isD_u32, isD_v, isD_nil]) ?_
      simp only [go_sem, Nat.reduceAdd, Nat.reduceEqDiff, Nat.reduceLT, reduceIte, reduceCtorEq, Int.reduceLE, Int.reduceLT, Int.reduceEq, Int.reduceAdd, Int.reduceMul, Int.reduceSub, Nat.reduceMul, Nat.reduceSub, Nat.reducePow, Nat.reduceLeDiff, Int.reduceToNat, DD, x_app, x_ga0, x_gas, x_gan, Int.cast_ofNat_Int, eq_self, Int.zero_lt_one, Bool.not_false, Bool.not_true, beq_self_eq_true]
      refine callK_of false nat_Add.call (a4) rfl rfl (by simp [ownOK, hd, fzH, fzArgs, fz]) (by simp [U32, isD_u32, isD_v, isD_nil]) ?_
      simp only [go_sem, Nat.reduceAdd, Nat.reduceEqDiff, Nat.reduceLT, reduceIte, reduceCtorEq, Int.reduceLE, Int.reduceLT, Int.reduceEq, Int.reduceAdd, Int.reduceMul, Int.reduceSub, Nat.reduceMul, Nat.reduceSub, Nat.reducePow, Nat.reduceLeDiff, Int.reduceToNat, DD, x_app, x_ga0, x_gas, x_gan, Int.cast_ofNat_Int, eq_self, Int.zero_lt_one, Bool.not_false, Bool.not_true, beq_self_eq_true]
      refine callK_of false nat_Mul.call (m5) rfl rfl (by simp [ownOK, hd, fzH, fzArgs, fz]) (by simp [U32, isD_u32, isD_v, isD_nil]) ?_
      simp only [go_sem, Nat.reduceAdd, Nat.reduceEqDiff, Nat.reduceLT, reduceIte, reduceCtorEq, Int.reduceLE, Int.reduceLT, Int.reduceEq, Int.reduceAdd, Int.reduceMul, Int.reduceSub, Nat.reduceMul, Nat.reduceSub, Nat.reducePow, Nat.reduceLeDiff, Int.reduceToNat, DD, x_app, x_ga0, x_gas, x_gan, Int.cast_ofNat_Int, eq_self, Int.zero_lt_one, Bool.not_false, Bool.not_true, beq_self_eq_true]
      refine callK_of false annulusref1_Same.call (y1) rfl rfl (by simp [ownOK, hd, fzH, fzArgs, fz]) (by simp [U32, isD_u32, isD_v, isD_nil]) ?_
      simp only [go_sem, Nat.reduceAdd, Nat.reduceEqDiff, Nat.reduceLT, reduceIte, reduceCtorEq, Int.reduceLE, Int.reduceLT, Int.reduceEq, Int.reduceAdd, Int.reduceMul, Int.reduceSub, Nat.reduceMul, Nat.reduceSub, Nat.reducePow, Nat.reduceLeDiff, Int.reduceToNat, DD, x_app, x_ga0, x_gas, x_gan, Int.cast_ofNat_Int, eq_self, Int.zero_lt_one, Bool.not_false, Bool.not_true, beq_self_eq_true]
      refine callK_of false nat_Trim.call (t1) rfl rfl (by simp [ownOK, hd, fzH, fzArgs, fz]) (by simp [U32, isD_u32, isD_v, isD_nil]) ?_
      simp only [go_sem, Nat.reduceAdd, Nat.reduceEqDiff, Nat.reduceLT, reduceIte, reduceCtorEq, Int.reduceLE, Int.reduceLT, Int.reduceEq, Int.reduceAdd, Int.reduceMul, Int.reduceSub, Nat.reduceMul, Nat.reduceSub, Nat.reducePow, Nat.reduceLeDiff, Int.reduceToNat, DD, x_app, x_ga0, x_gas, x_gan, Int.cast_ofNat_Int, eq_self, Int.zero_lt_one, Bool.not_false, Bool.not_true, beq_self_eq_true]
      refine callK_of false annulusref1_Same.call (y2) rfl rfl (by simp [ownOK, hd, fzH, fzArgs, fz]) (by simp [U32, isD_u32, isD_v, isD_nil]) ?_
      simp only [go_sem, Nat.reduceAdd, Nat.reduceEqDiff, Nat.reduceLT, reduceIte, reduceCtorEq, Int.reduceLE, Int.reduceLT, Int.reduceEq, Int.reduceAdd, Int.reduceMul, Int.reduceSub, Nat.reduceMul, Nat.reduceSub, Nat.reducePow, Nat.reduceLeDiff, Int.reduceToNat, DD, x_app, x_ga0, x_gas, x_gan, Int.cast_ofNat_Int, eq_self, Int.zero_lt_one, Bool.not_false, Bool.not_true, beq_self_eq_true]
      refine callK_of false annulusref1_Same.call (y3) rfl rfl (by simp [ownOK, hd, fzH, fzArgs, fz]) (by simp [U32, isD_u32, isD_v, isD_nil]) ?_
      simp only [go_sem, Nat.reduceAdd, Nat.reduceEqDiff, Nat.reduceLT, reduceIte, reduceCtorEq, Int.reduceLE, Int.reduceLT, Int.reduceEq, Int.reduceAdd, Int.reduceMul, Int.reduceSub, Nat.reduceMul, Nat.reduceSub, Nat.reducePow, Nat.reduceLeDiff, Int.reduceToNat, DD, x_app, x_ga0, x_gas, x_gan, Int.cast_ofNat_Int, eq_self, Int.zero_lt_one, Bool.not_false, Bool.not_true, beq_self_eq_true]
      refine callK_of false nat_Mul.call (m2) rfl rfl (by simp [ownOK, hd, fzH, fzArgs, fz]) (by simp [U32, isD_u32, isD_v, isD_nil]) ?_
      simp only [go_sem, Nat.reduceAdd, Nat.reduceEqDiff, Nat.reduceLT, reduceIte, reduceCtorEq, Int.reduceLE, Int.reduceLT, Int.reduceEq, Int.reduceAdd, Int.reduceMul, Int.reduceSub, Nat.reduceMul, Nat.reduceSub, Nat.reducePow, Nat.reduceLeDiff, Int.reduceToNat, DD, x_app, x_ga0, x_gas, x_gan, Int.cast_ofNat_Int, eq_self, Int.zero_lt_one, Bool.not_false, Bool.not_true, beq_self_eq_true]
      refine callK_of false nat_Root.call (r1) rfl rfl (by simp [ownOK, hd, fzH, fzArgs, fz]) (by simp [U32, isD_u32, isD_v, isD_nil]) ?_
      simp only [go_sem, Nat.reduceAdd, Nat.reduceEqDiff, Nat.reduceLT, reduceIte, reduceCtorEq, Int.reduceLE, Int.reduceLT, Int.reduceEq, Int.reduceAdd, Int.reduceMul, Int.reduceSub, Nat.reduceMul, Nat.reduceSub, Nat.reducePow, Nat.reduceLeDiff, Int.reduceToNat, DD, x_app, x_ga0, x_gas, x_gan, Int.cast_ofNat_Int, eq_self, Int.zero_lt_one, Bool.not_false, Bool.not_true, beq_self_eq_true]
      refine callK_of false nat_Trim.call (t2) rfl rfl (by simp [ownOK, hd, fzH, fzArgs, fz]) (by simp [U32, isD_u32, isD_v, isD_nil]) ?_
      simp only [go_sem, Nat.reduceAdd, Nat.reduceEqDiff, Nat.reduceLT, reduceIte, reduceCtorEq, Int.reduceLE, Int.reduceLT, Int.reduceEq, Int.reduceAdd, Int.reduceMul, Int.reduceSub, Nat.reduceMul, Nat.reduceSub, Nat.reducePow, Nat.reduceLeDiff, Int.reduceToNat, DD, x_app, x_ga0, x_gas, x_gan, Int.cast_ofNat_Int, eq_self, Int.zero_lt_one, Bool.not_false, Bool.not_true, beq_self_eq_true]
      refine callK_of false annulusref1_Same.call (y4) rfl rfl (by simp [ownOK, hd, fzH, fzArgs, fz]) (by simp [U32, isD_u32, isD_v, isD_nil]) ?_
      simp only [go_sem, Nat.reduceAdd, Nat.reduceEqDiff, Nat.reduceLT, reduceIte, reduceCtorEq, Int.reduceLE, Int.reduceLT, Int.reduceEq, Int.reduceAdd, Int.reduceMul, Int.reduceSub, Nat.reduceMul, Nat.reduceSub, Nat.reducePow, Nat.reduceLeDiff, Int.reduceToNat, DD, x_app, x_ga0, x_gas, x_gan, Int.cast_ofNat_Int, eq_self, Int.zero_lt_one, Bool.not_false, Bool.not_true, beq_self_eq_true]
    · skip
      refine callK_of false annuluslaw1_few.call (few_no b hfb) rfl rfl (by simp [ownOK, hd, fzH, fzArgs, fz]) (by simp [U32, isD_u32, isD_v, isD_nil]) ?_
      simp only [go_sem, Nat.reduceAdd, Nat.reduceEqDiff, Nat.reduceLT, reduceIte, reduceCtorEq, Int.reduceLE, Int.reduceLT, Int.reduceEq, Int.reduceAdd, Int.reduceMul, Int.reduceSub, Nat.reduceMul, Nat.reduceSub, Nat.reducePow, Nat.reduceLeDiff, Int.reduceToNat, DD, x_app, x_ga0, x_gas, x_gan, Int.cast_ofNat_Int, eq_self, Int.zero_lt_one, Bool.not_false, Bool.not_true, beq_self_eq_true]
  · skip
    refine callK_of false annuluslaw1_few.call (few_no a hfa) rfl rfl (by simp [ownOK, hd, fzH, fzArgs, fz]) (by simp [U32, isD_u32, isD_v, isD_nil]) ?_
    simp only [go_sem, Nat.reduceAdd, Nat.reduceEqDiff, Nat.reduceLT, reduceIte, reduceCtorEq, Int.reduceLE, Int.reduceLT, Int.reduceEq, Int.reduceAdd, Int.reduceMul, Int.reduceSub, Nat.reduceMul, Nat.reduceSub, Nat.reducePow, Nat.reduceLeDiff, Int.reduceToNat, DD, x_app, x_ga0, x_gas, x_gan, Int.cast_ofNat_Int, eq_self, Int.zero_lt_one, Bool.not_false, Bool.not_true, beq_self_eq_true]
set_option maxRecDepth 100000 in
set_option maxHeartbeats 4000000 in
theorem natRoots_sat (a : List Nat) (n : Nat) (ha : Lm a) (hn : n < 256) : Sat CT false 8 [U32 a, .v (.int .u8 (n : Nat))] (Bo true) := by
  refine sat_of annuluslaw1_NatRoots.ok (by simp) ?_
  have DD := annuluslaw1_NatRoots.dr
  simp only [drP, drR, bodyOf, Tryd.f8, true_and, and_true] at DD
  simp only [go_sem, Nat.reduceAdd, Nat.reduceEqDiff, Nat.reduceLT, reduceIte, reduceCtorEq, Int.reduceLE, Int.reduceLT, Int.reduceEq, Int.reduceAdd, Int.reduceMul, Int.reduceSub, Nat.reduceMul, Nat.reduceSub, Nat.reducePow, Nat.reduceLeDiff, Int.reduceToNat, Tryd.f8, DD]
  refine callK_of false annuluslaw1_known.call (known_sat) rfl rfl (by simp [ownOK, hd, fzH, fzArgs, fz]) (by simp [U32, isD_u32, isD_v, isD_nil]) ?_
  simp only [go_sem, Nat.reduceAdd, Nat.reduceEqDiff, Nat.reduceLT, reduceIte, reduceCtorEq, Int.reduceLE, Int.reduceLT, Int.reduceEq, Int.reduceAdd, Int.reduceMul, Int.reduceSub, Nat.reduceMul, Nat.reduceSub, Nat.reducePow, Nat.reduceLeDiff, Int.reduceToNat, DD, x_app, x_ga0, x_gas, x_gan, Int.cast_ofNat_Int, eq_self, Int.zero_lt_one, Bool.not_false, Bool.not_true, beq_self_eq_true]
  by_cases hfa : a.length ≤ 24
  · skip
    refine callK_of false annuluslaw1_few.call (few_yes a hfa) rfl rfl (by simp [ownOK, hd, fzH, fzArgs, fz]) (by simp [U32, isD_u32, isD_v, isD_nil]) ?_
    simp only [go_sem, Nat.reduceAdd, Nat.reduceEqDiff, Nat.reduceLT, reduceIte, reduceCtorEq, Int.reduceLE, Int.reduceLT, Int.reduceEq, Int.reduceAdd, Int.reduceMul, Int.reduceSub, Nat.reduceMul, Nat.reduceSub, Nat.reducePow, Nat.reduceLeDiff, Int.reduceToNat, DD, x_app, x_ga0, x_gas, x_gan, Int.cast_ofNat_Int, eq_self, Int.zero_lt_one, Bool.not_false, Bool.not_true, beq_self_eq_true]
    have la := lim_nv_len ha hfa (Nat.le_refl _)
    have lr := lim_nv_len ha hfa (isq_le (nv a))
    obtain ⟨q1, q2⟩ := isq_spec (nv a)
    have h1 := root_v ha rfl (by omega)
    generalize isq (nv a) = R at *
    have g1 : (lim (R + 1)).length ≤ 25 := lim_add_len lr (lim_length_le (by decide))
    have g2 : (lim (R * R)).length ≤ 48 := lim_mul_len lr lr
    have g3 : (lim ((R + 1) * (R + 1))).length ≤ 50 := lim_mul_len g1 g1
    have g4 := lim_shl_len ha hfa n
    have g5 := bl_nv_le ha
    have g6 := lim_pow2 (bl (nv a))
    have a1 := add_v (Lm_lim R) Lm1 (nv_lim _) nv1 (by omega) (by simp)
    have h2 := shl_v (k := n) ha rfl (by omega) (by omega)
    have m1 := mul_v (Lm_lim R) (Lm_lim R) (nv_lim _) (nv_lim _) (by omega) (by omega)
    have c1 := cmp_v (Lm_lim (R * R)) ha (nv_lim _) rfl (by omega) (by omega)
    have m2 := mul_v (Lm_lim (R + 1)) (Lm_lim (R + 1)) (nv_lim _) (nv_lim _) (by omega) (by omega)
    have c2 := cmp_v (Lm_lim ((R + 1) * (R + 1))) ha (nv_lim _) rfl (by omega) (by omega)
    have f1 : cmpN (R * R) (nv a) ≤ 0 := by
      have := cmpN_posi (x := R * R) (y := nv a)
      omega
    have f2 : 0 < cmpN ((R + 1) * (R + 1)) (nv a) := cmpN_posi.mpr q2
    have h3 := shr_v (k := n) (Lm_lim (nv a * 2 ^ n)) (nv_lim _) (by omega) (by omega)
    rw [Nat.mul_div_cancel _ (Nat.two_pow_pos n)] at h3
    have t1 := trim_v ha rfl (by omega)
    have y1 := same_v (x := nv a) rfl (by omega)
    have b1 := bits_v ha rfl (by omega)
    have b2 := bits_v (Lm_lim (nv a * 2 ^ n)) (nv_lim _) (by omega)
    have l1 := low_v ha rfl (by omega)
    have l2 := low_v (Lm_lim (nv a * 2 ^ n)) (nv_lim _) (by omega)
    have h4 := shl_v (k := bl (nv a)) Lm1 nv1 (by simp) (by omega)
    rw [Nat.one_mul] at h4
    have c3 := cmp_v (Lm_lim (2 ^ bl (nv a))) ha (nv_lim _) rfl (by omega) (by omega)
    have f3 : 0 < cmpN (2 ^ bl (nv a)) (nv a) := cmpN_posi.mpr (bl_lt _)
    have w1 : IntKind.i64.wrap (n : Int) = (n : Int) := wrap_i64 (by omega) (by omega)
    by_cases hz : nv a = 0
    · have e1 : (lim (nv a * 2 ^ n)).length = 0 := by rw [hz, Nat.zero_mul, lim_zero]; rfl
      have e2 : (((lim (nv a * 2 ^ n)).length : Nat) : Int) = 0 := by omega
      refine callK_of false nat_Root.call (h1) rfl rfl (by simp [ownOK, hd, fzH, fzArgs, fz]) (by simp [U32, isD_u32, isD_v, isD_nil]) ?_
      simp only [go_sem, Nat.reduceAdd, Nat.reduceEqDiff, Nat.reduceLT, reduceIte, reduceCtorEq, Int.reduceLE, Int.reduceLT, Int.reduceEq, Int.reduceAdd, Int.reduceMul, Int.reduceSub, Nat.reduceMul, Nat.reduceSub, Nat.reducePow, Nat.reduceLeDiff, Int.reduceToNat, DD, x_app, x_ga0, x_gas, x_gan, Int.cast_ofNat_Int, eq_self, Int.zero_lt_one, Bool.not_false, Bool.not_true, beq_self_eq_true, w1, f1, f2, f3, e2]
      refine callK_of false nat_Add.call (a1) rfl rfl (by simp [ownOK, hd, fzH, fzArgs, fz]) (by simp [U32, isD_u32, isD_v, isD_nil]) ?_
      simp only [go_sem, Nat.reduceAdd, Nat.reduceEqDiff, Nat.reduceLT, reduceIte, reduceCtorEq, Int.reduceLE, Int.reduceLT, Int.reduceEq, Int.reduceAdd, Int.reduceMul, Int.reduceSub, Nat.reduceMul, Nat.reduceSub, Nat.reducePow, Nat.reduceLeDiff, Int.reduceToNat, DD, x_app, x_ga0, x_gas, x_gan, Int.cast_ofNat_Int, eq_self, Int.zero_lt_one, Bool.not_false, Bool.not_true, beq_self_eq_true, w1, f1, f2, f3, e2]
      refine callK_of false nat_Shl.call (h2) rfl rfl (by simp [ownOK, hd, fzH, fzArgs, fz]) (by simp [U32, isD_u32, isD_v, isD_nil]) ?_
      simp only [go_sem, Nat.reduceAdd, Nat.reduceEqDiff, Nat.reduceLT, reduceIte, reduceCtorEq, Int.reduceLE, Int.reduceLT, Int.reduceEq, Int.reduceAdd, Int.reduceMul, Int.reduceSub, Nat.reduceMul, Nat.reduceSub, Nat.reducePow, Nat.reduceLeDiff, Int.reduceToNat, DD, x_app, x_ga0, x_gas, x_gan, Int.cast_ofNat_Int, eq_self, Int.zero_lt_one, Bool.not_false, Bool.not_true, beq_self_eq_true, w1, f1, f2, f3, e2]
      refine callK_of false nat_Mul.call (m1) rfl rfl (by simp [ownOK, hd, fzH, fzArgs, fz]) (by simp [U32, isD_u32, isD_v, isD_nil]) ?_
      simp only [go_sem, Nat.reduceAdd, Nat.reduceEqDiff, Nat.reduceLT, reduceIte, reduceCtorEq, Int.reduceLE, Int.reduceLT, Int.reduceEq, Int.reduceAdd, Int.reduceMul, Int.reduceSub, Nat.reduceMul, Nat.reduceSub, Nat.reducePow, Nat.reduceLeDiff, Int.reduceToNat, DD, x_app, x_ga0, x_gas, x_gan, Int.cast_ofNat_Int, eq_self, Int.zero_lt_one, Bool.not_false, Bool.not_true, beq_self_eq_true, w1, f1, f2, f3, e2]
      refine callK_of false nat_Cmp.call (c1) rfl rfl (by simp [ownOK, hd, fzH, fzArgs, fz]) (by simp [U32, isD_u32, isD_v, isD_nil]) ?_
      simp only [go_sem, Nat.reduceAdd, Nat.reduceEqDiff, Nat.reduceLT, reduceIte, reduceCtorEq, Int.reduceLE, Int.reduceLT, Int.reduceEq, Int.reduceAdd, Int.reduceMul, Int.reduceSub, Nat.reduceMul, Nat.reduceSub, Nat.reducePow, Nat.reduceLeDiff, Int.reduceToNat, DD, x_app, x_ga0, x_gas, x_gan, Int.cast_ofNat_Int, eq_self, Int.zero_lt_one, Bool.not_false, Bool.not_true, beq_self_eq_true, w1, f1, f2, f3, e2]
      refine callK_of false nat_Mul.call (m2) rfl rfl (by simp [ownOK, hd, fzH, fzArgs, fz]) (by simp [U32, isD_u32, isD_v, isD_nil]) ?_
      simp only [go_sem, Nat.reduceAdd, Nat.reduceEqDiff, Nat.reduceLT, reduceIte, reduceCtorEq, Int.reduceLE, Int.reduceLT, Int.reduceEq, Int.reduceAdd, Int.reduceMul, Int.reduceSub, Nat.reduceMul, Nat.reduceSub, Nat.reducePow, Nat.reduceLeDiff, Int.reduceToNat, DD, x_app, x_ga0, x_gas, x_gan, Int.cast_ofNat_Int, eq_self, Int.zero_lt_one, Bool.not_false, Bool.not_true, beq_self_eq_true, w1, f1, f2, f3, e2]
      refine callK_of false nat_Cmp.call (c2) rfl rfl (by simp [ownOK, hd, fzH, fzArgs, fz]) (by simp [U32, isD_u32, isD_v, isD_nil]) ?_
      simp only [go_sem, Nat.reduceAdd, Nat.reduceEqDiff, Nat.reduceLT, reduceIte, reduceCtorEq, Int.reduceLE, Int.reduceLT, Int.reduceEq, Int.reduceAdd, Int.reduceMul, Int.reduceSub, Nat.reduceMul, Nat.reduceSub, Nat.reducePow, Nat.reduceLeDiff, Int.reduceToNat, DD, x_app, x_ga0, x_gas, x_gan, Int.cast_ofNat_Int, eq_self, Int.zero_lt_one, Bool.not_false, Bool.not_true, beq_self_eq_true, w1, f1, f2, f3, e2]
      refine callK_of false nat_Shr.call (h3) rfl rfl (by simp [ownOK, hd, fzH, fzArgs, fz]) (by simp [U32, isD_u32, isD_v, isD_nil]) ?_
      simp only [go_sem, Nat.reduceAdd, Nat.reduceEqDiff, Nat.reduceLT, reduceIte, reduceCtorEq, Int.reduceLE, Int.reduceLT, Int.reduceEq, Int.reduceAdd, Int.reduceMul, Int.reduceSub, Nat.reduceMul, Nat.reduceSub, Nat.reducePow, Nat.reduceLeDiff, Int.reduceToNat, DD, x_app, x_ga0, x_gas, x_gan, Int.cast_ofNat_Int, eq_self, Int.zero_lt_one, Bool.not_false, Bool.not_true, beq_self_eq_true, w1, f1, f2, f3, e2]
      refine callK_of false nat_Trim.call (t1) rfl rfl (by simp [ownOK, hd, fzH, fzArgs, fz]) (by simp [U32, isD_u32, isD_v, isD_nil]) ?_
      simp only [go_sem, Nat.reduceAdd, Nat.reduceEqDiff, Nat.reduceLT, reduceIte, reduceCtorEq, Int.reduceLE, Int.reduceLT, Int.reduceEq, Int.reduceAdd, Int.reduceMul, Int.reduceSub, Nat.reduceMul, Nat.reduceSub, Nat.reducePow, Nat.reduceLeDiff, Int.reduceToNat, DD, x_app, x_ga0, x_gas, x_gan, Int.cast_ofNat_Int, eq_self, Int.zero_lt_one, Bool.not_false, Bool.not_true, beq_self_eq_true, w1, f1, f2, f3, e2]
      refine callK_of false annulusref1_Same.call (y1) rfl rfl (by simp [ownOK, hd, fzH, fzArgs, fz]) (by simp [U32, isD_u32, isD_v, isD_nil]) ?_
      simp only [go_sem, Nat.reduceAdd, Nat.reduceEqDiff, Nat.reduceLT, reduceIte, reduceCtorEq, Int.reduceLE, Int.reduceLT, Int.reduceEq, Int.reduceAdd, Int.reduceMul, Int.reduceSub, Nat.reduceMul, Nat.reduceSub, Nat.reducePow, Nat.reduceLeDiff, Int.reduceToNat, DD, x_app, x_ga0, x_gas, x_gan, Int.cast_ofNat_Int, eq_self, Int.zero_lt_one, Bool.not_false, Bool.not_true, beq_self_eq_true, w1, f1, f2, f3, e2]
      refine callK_of false nat_Bits.call (b1) rfl rfl (by simp [ownOK, hd, fzH, fzArgs, fz]) (by simp [U32, isD_u32, isD_v, isD_nil]) ?_
      simp only [go_sem, Nat.reduceAdd, Nat.reduceEqDiff, Nat.reduceLT, reduceIte, reduceCtorEq, Int.reduceLE, Int.reduceLT, Int.reduceEq, Int.reduceAdd, Int.reduceMul, Int.reduceSub, Nat.reduceMul, Nat.reduceSub, Nat.reducePow, Nat.reduceLeDiff, Int.reduceToNat, DD, x_app, x_ga0, x_gas, x_gan, Int.cast_ofNat_Int, eq_self, Int.zero_lt_one, Bool.not_false, Bool.not_true, beq_self_eq_true, w1, f1, f2, f3, e2]
      refine callK_of false nat_Shl.call (h4) rfl rfl (by simp [ownOK, hd, fzH, fzArgs, fz]) (by simp [U32, isD_u32, isD_v, isD_nil]) ?_
      simp only [go_sem, Nat.reduceAdd, Nat.reduceEqDiff, Nat.reduceLT, reduceIte, reduceCtorEq, Int.reduceLE, Int.reduceLT, Int.reduceEq, Int.reduceAdd, Int.reduceMul, Int.reduceSub, Nat.reduceMul, Nat.reduceSub, Nat.reducePow, Nat.reduceLeDiff, Int.reduceToNat, DD, x_app, x_ga0, x_gas, x_gan, Int.cast_ofNat_Int, eq_self, Int.zero_lt_one, Bool.not_false, Bool.not_true, beq_self_eq_true, w1, f1, f2, f3, e2]
      refine callK_of false nat_Cmp.call (c3) rfl rfl (by simp [ownOK, hd, fzH, fzArgs, fz]) (by simp [U32, isD_u32, isD_v, isD_nil]) ?_
      simp only [go_sem, Nat.reduceAdd, Nat.reduceEqDiff, Nat.reduceLT, reduceIte, reduceCtorEq, Int.reduceLE, Int.reduceLT, Int.reduceEq, Int.reduceAdd, Int.reduceMul, Int.reduceSub, Nat.reduceMul, Nat.reduceSub, Nat.reducePow, Nat.reduceLeDiff, Int.reduceToNat, DD, x_app, x_ga0, x_gas, x_gan, Int.cast_ofNat_Int, eq_self, Int.zero_lt_one, Bool.not_false, Bool.not_true, beq_self_eq_true, w1, f1, f2, f3, e2]
    · have e1 : (lim (nv a * 2 ^ n)).length ≠ 0 := by
        intro q
        have q0 := nv_nil_of q
        rw [nv_lim] at q0
        exact (Nat.mul_ne_zero hz (Nat.ne_of_gt (Nat.two_pow_pos n))) q0
      have e2 : ¬ (((lim (nv a * 2 ^ n)).length : Nat) : Int) = 0 := by omega
      rw [bl_shl hz] at b2
      rw [tz_shl hz] at l2
      have htz : tz (nv a) < bl (nv a) := tz_lt hz (bl_lt _)
      have w2 : IntKind.i64.wrap (((bl (nv a) : Nat) : Int) + (n : Int)) = ((bl (nv a) + n : Nat) : Int) := by rw [wrap_i64 (by omega) (by omega)]; omega
      have w3 : IntKind.i64.wrap (((tz (nv a) : Nat) : Int) + (n : Int)) = ((tz (nv a) + n : Nat) : Int) := by rw [wrap_i64 (by omega) (by omega)]; omega
      refine callK_of false nat_Root.call (h1) rfl rfl (by simp [ownOK, hd, fzH, fzArgs, fz]) (by simp [U32, isD_u32, isD_v, isD_nil]) ?_
      simp only [go_sem, Nat.reduceAdd, Nat.reduceEqDiff, Nat.reduceLT, reduceIte, reduceCtorEq, Int.reduceLE, Int.reduceLT, Int.reduceEq, Int.reduceAdd, Int.reduceMul, Int.reduceSub, Nat.reduceMul, Nat.reduceSub, Nat.reducePow, Nat.reduceLeDiff, Int.reduceToNat, DD, x_app, x_ga0, x_gas, x_gan, Int.cast_ofNat_Int, eq_self, Int.zero_lt_one, Bool.not_false, Bool.not_true, beq_self_eq_true, w1, w2, w3, f1, f2, f3, e2]
      refine callK_of false nat_Add.call (a1) rfl rfl (by simp [ownOK, hd, fzH, fzArgs, fz]) (by simp [U32, isD_u32, isD_v, isD_nil]) ?_
      simp only [go_sem, Nat.reduceAdd, Nat.reduceEqDiff, Nat.reduceLT, reduceIte, reduceCtorEq, Int.reduceLE, Int.reduceLT, Int.reduceEq, Int.reduceAdd, Int.reduceMul, Int.reduceSub, Nat.reduceMul, Nat.reduceSub, Nat.reducePow, Nat.reduceLeDiff, Int.reduceToNat, DD, x_app, x_ga0, x_gas, x_gan, Int.cast_ofNat_Int, eq_self, Int.zero_lt_one, Bool.not_false, Bool.not_true, beq_self_eq_true, w1, w2, w3, f1, f2, f3, e2]
      refine callK_of false nat_Shl.call (h2) rfl rfl (by simp [ownOK, hd, fzH, fzArgs, fz]) (by simp [U32, isD_u32, isD_v, isD_nil]) ?_
      simp only [go_sem, Nat.reduceAdd, Nat.reduceEqDiff, Nat.reduceLT, reduceIte, reduceCtorEq, Int.reduceLE, Int.reduceLT, Int.reduceEq, Int.reduceAdd, Int.reduceMul, Int.reduceSub, Nat.reduceMul, Nat.reduceSub, Nat.reducePow, Nat.reduceLeDiff, Int.reduceToNat, DD, x_app, x_ga0, x_gas, x_gan, Int.cast_ofNat_Int, eq_self, Int.zero_lt_one, Bool.not_false, Bool.not_true, beq_self_eq_true, w1, w2, w3, f1, f2, f3, e2]
      refine callK_of false nat_Mul.call (m1) rfl rfl (by simp [ownOK, hd, fzH, fzArgs, fz]) (by simp [U32, isD_u32, isD_v, isD_nil]) ?_
      simp only [go_sem, Nat.reduceAdd, Nat.reduceEqDiff, Nat.reduceLT, reduceIte, reduceCtorEq, Int.reduceLE, Int.reduceLT, Int.reduceEq, Int.reduceAdd, Int.reduceMul, Int.reduceSub, Nat.reduceMul, Nat.reduceSub, Nat.reducePow, Nat.reduceLeDiff, Int.reduceToNat, DD, x_app, x_ga0, x_gas, x_gan, Int.cast_ofNat_Int, eq_self, Int.zero_lt_one, Bool.not_false, Bool.not_true, beq_self_eq_true, w1, w2, w3, f1, f2, f3, e2]
      refine callK_of false nat_Cmp.call (c1) rfl rfl (by simp [ownOK, hd, fzH, fzArgs, fz]) (by simp [U32, isD_u32, isD_v, isD_nil]) ?_
      simp only [go_sem, Nat.reduceAdd, Nat.reduceEqDiff, Nat.reduceLT, reduceIte, reduceCtorEq, Int.reduceLE, Int.reduceLT, Int.reduceEq, Int.reduceAdd, Int.reduceMul, Int.reduceSub, Nat.reduceMul, Nat.reduceSub, Nat.reducePow, Nat.reduceLeDiff, Int.reduceToNat, DD, x_app, x_ga0, x_gas, x_gan, Int.cast_ofNat_Int, eq_self, Int.zero_lt_one, Bool.not_false, Bool.not_true, beq_self_eq_true, w1, w2, w3, f1, f2, f3, e2]
      refine callK_of false nat_Mul.call (m2) rfl rfl (by simp [ownOK, hd, fzH, fzArgs, fz]) (by simp [U32, isD_u32, isD_v, isD_nil]) ?_
      simp only [go_sem, Nat.reduceAdd, Nat.reduceEqDiff, Nat.reduceLT, reduceIte, reduceCtorEq, Int.reduceLE, Int.reduceLT, Int.reduceEq, Int.reduceAdd, Int.reduceMul, Int.reduceSub, Nat.reduceMul, Nat.reduceSub, Nat.reducePow, Nat.reduceLeDiff, Int.reduceToNat, DD, x_app, x_ga0, x_gas, x_gan, Int.cast_ofNat_Int, eq_self, Int.zero_lt_one, Bool.not_false, Bool.not_true, beq_self_eq_true, w1, w2, w3, f1, f2, f3, e2]
      refine callK_of false nat_Cmp.call (c2) rfl rfl (by simp [ownOK, hd, fzH, fzArgs, fz]) (by simp [U32, isD_u32, isD_v, isD_nil]) ?_
      simp only [go_sem, Nat.reduceAdd, Nat.reduceEqDiff, Nat.reduceLT, reduceIte, reduceCtorEq, Int.reduceLE, Int.reduceLT, Int.reduceEq, Int.reduceAdd, Int.reduceMul, Int.reduceSub, Nat.reduceMul, Nat.reduceSub, Nat.reducePow, Nat.reduceLeDiff, Int.reduceToNat, DD, x_app, x_ga0, x_gas, x_gan, Int.cast_ofNat_Int, eq_self, Int.zero_lt_one, Bool.not_false, Bool.not_true, beq_self_eq_true, w1, w2, w3, f1, f2, f3, e2]
      refine callK_of false nat_Shr.call (h3) rfl rfl (by simp [ownOK, hd, fzH, fzArgs, fz]) (by simp [U32, isD_u32, isD_v, isD_nil]) ?_
      simp only [go_sem, Nat.reduceAdd, Nat.reduceEqDiff, Nat.reduceLT, reduceIte, reduceCtorEq, Int.reduceLE, Int.reduceLT, Int.reduceEq, Int.reduceAdd, Int.reduceMul, Int.reduceSub, Nat.reduceMul, Nat.reduceSub, Nat.reducePow, Nat.reduceLeDiff, Int.reduceToNat, DD, x_app, x_ga0, x_gas, x_gan, Int.cast_ofNat_Int, eq_self, Int.zero_lt_one, Bool.not_false, Bool.not_true, beq_self_eq_true, w1, w2, w3, f1, f2, f3, e2]
      refine callK_of false nat_Trim.call (t1) rfl rfl (by simp [ownOK, hd, fzH, fzArgs, fz]) (by simp [U32, isD_u32, isD_v, isD_nil]) ?_
      simp only [go_sem, Nat.reduceAdd, Nat.reduceEqDiff, Nat.reduceLT, reduceIte, reduceCtorEq, Int.reduceLE, Int.reduceLT, Int.reduceEq, Int.reduceAdd, Int.reduceMul, Int.reduceSub, Nat.reduceMul, Nat.reduceSub, Nat.reducePow, Nat.reduceLeDiff, Int.reduceToNat, DD, x_app, x_ga0, x_gas, x_gan, Int.cast_ofNat_Int, eq_self, Int.zero_lt_one, Bool.not_false, Bool.not_true, beq_self_eq_true, w1, w2, w3, f1, f2, f3, e2]
      refine callK_of false annulusref1_Same.call (y1) rfl rfl (by simp [ownOK, hd, fzH, fzArgs, fz]) (by simp [U32, isD_u32, isD_v, isD_nil]) ?_
      simp only [go_sem, Nat.reduceAdd, Nat.reduceEqDiff, Nat.reduceLT, reduceIte, reduceCtorEq, Int.reduceLE, Int.reduceLT, Int.reduceEq, Int.reduceAdd, Int.reduceMul, Int.reduceSub, Nat.reduceMul, Nat.reduceSub, Nat.reducePow, Nat.reduceLeDiff, Int.reduceToNat, DD, x_app, x_ga0, x_gas, x_gan, Int.cast_ofNat_Int, eq_self, Int.zero_lt_one, Bool.not_false, Bool.not_true, beq_self_eq_true, w1, w2, w3, f1, f2, f3, e2]
      refine callK_of false nat_Bits.call (b2) rfl rfl (by simp [ownOK, hd, fzH, fzArgs, fz]) (by simp [U32, isD_u32, isD_v, isD_nil]) ?_
      simp only [go_sem, Nat.reduceAdd, Nat.reduceEqDiff, Nat.reduceLT, reduceIte, reduceCtorEq, Int.reduceLE, Int.reduceLT, Int.reduceEq, Int.reduceAdd, Int.reduceMul, Int.reduceSub, Nat.reduceMul, Nat.reduceSub, Nat.reducePow, Nat.reduceLeDiff, Int.reduceToNat, DD, x_app, x_ga0, x_gas, x_gan, Int.cast_ofNat_Int, eq_self, Int.zero_lt_one, Bool.not_false, Bool.not_true, beq_self_eq_true, w1, w2, w3, f1, f2, f3, e2]
      refine callK_of false nat_Bits.call (b1) rfl rfl (by simp [ownOK, hd, fzH, fzArgs, fz]) (by simp [U32, isD_u32, isD_v, isD_nil]) ?_
      simp only [go_sem, Nat.reduceAdd, Nat.reduceEqDiff, Nat.reduceLT, reduceIte, reduceCtorEq, Int.reduceLE, Int.reduceLT, Int.reduceEq, Int.reduceAdd, Int.reduceMul, Int.reduceSub, Nat.reduceMul, Nat.reduceSub, Nat.reducePow, Nat.reduceLeDiff, Int.reduceToNat, DD, x_app, x_ga0, x_gas, x_gan, Int.cast_ofNat_Int, eq_self, Int.zero_lt_one, Bool.not_false, Bool.not_true, beq_self_eq_true, w1, w2, w3, f1, f2, f3, e2]
      refine callK_of false nat_Low.call (l2) rfl rfl (by simp [ownOK, hd, fzH, fzArgs, fz]) (by simp [U32, isD_u32, isD_v, isD_nil]) ?_
      simp only [go_sem, Nat.reduceAdd, Nat.reduceEqDiff, Nat.reduceLT, reduceIte, reduceCtorEq, Int.reduceLE, Int.reduceLT, Int.reduceEq, Int.reduceAdd, Int.reduceMul, Int.reduceSub, Nat.reduceMul, Nat.reduceSub, Nat.reducePow, Nat.reduceLeDiff, Int.reduceToNat, DD, x_app, x_ga0, x_gas, x_gan, Int.cast_ofNat_Int, eq_self, Int.zero_lt_one, Bool.not_false, Bool.not_true, beq_self_eq_true, w1, w2, w3, f1, f2, f3, e2]
      refine callK_of false nat_Low.call (l1) rfl rfl (by simp [ownOK, hd, fzH, fzArgs, fz]) (by simp [U32, isD_u32, isD_v, isD_nil]) ?_
      simp only [go_sem, Nat.reduceAdd, Nat.reduceEqDiff, Nat.reduceLT, reduceIte, reduceCtorEq, Int.reduceLE, Int.reduceLT, Int.reduceEq, Int.reduceAdd, Int.reduceMul, Int.reduceSub, Nat.reduceMul, Nat.reduceSub, Nat.reducePow, Nat.reduceLeDiff, Int.reduceToNat, DD, x_app, x_ga0, x_gas, x_gan, Int.cast_ofNat_Int, eq_self, Int.zero_lt_one, Bool.not_false, Bool.not_true, beq_self_eq_true, w1, w2, w3, f1, f2, f3, e2]
      refine callK_of false nat_Bits.call (b1) rfl rfl (by simp [ownOK, hd, fzH, fzArgs, fz]) (by simp [U32, isD_u32, isD_v, isD_nil]) ?_
      simp only [go_sem, Nat.reduceAdd, Nat.reduceEqDiff, Nat.reduceLT, reduceIte, reduceCtorEq, Int.reduceLE, Int.reduceLT, Int.reduceEq, Int.reduceAdd, Int.reduceMul, Int.reduceSub, Nat.reduceMul, Nat.reduceSub, Nat.reducePow, Nat.reduceLeDiff, Int.reduceToNat, DD, x_app, x_ga0, x_gas, x_gan, Int.cast_ofNat_Int, eq_self, Int.zero_lt_one, Bool.not_false, Bool.not_true, beq_self_eq_true, w1, w2, w3, f1, f2, f3, e2]
      refine callK_of false nat_Shl.call (h4) rfl rfl (by simp [ownOK, hd, fzH, fzArgs, fz]) (by simp [U32, isD_u32, isD_v, isD_nil]) ?_
      simp only [go_sem, Nat.reduceAdd, Nat.reduceEqDiff, Nat.reduceLT, reduceIte, reduceCtorEq, Int.reduceLE, Int.reduceLT, Int.reduceEq, Int.reduceAdd, Int.reduceMul, Int.reduceSub, Nat.reduceMul, Nat.reduceSub, Nat.reducePow, Nat.reduceLeDiff, Int.reduceToNat, DD, x_app, x_ga0, x_gas, x_gan, Int.cast_ofNat_Int, eq_self, Int.zero_lt_one, Bool.not_false, Bool.not_true, beq_self_eq_true, w1, w2, w3, f1, f2, f3, e2]
      refine callK_of false nat_Cmp.call (c3) rfl rfl (by simp [ownOK, hd, fzH, fzArgs, fz]) (by simp [U32, isD_u32, isD_v, isD_nil]) ?_
      simp only [go_sem, Nat.reduceAdd, Nat.reduceEqDiff, Nat.reduceLT, reduceIte, reduceCtorEq, Int.reduceLE, Int.reduceLT, Int.reduceEq, Int.reduceAdd, Int.reduceMul, Int.reduceSub, Nat.reduceMul, Nat.reduceSub, Nat.reducePow, Nat.reduceLeDiff, Int.reduceToNat, DD, x_app, x_ga0, x_gas, x_gan, Int.cast_ofNat_Int, eq_self, Int.zero_lt_one, Bool.not_false, Bool.not_true, beq_self_eq_true, w1, w2, w3, f1, f2, f3, e2]
  · skip
    refine callK_of false annuluslaw1_few.call (few_no a hfa) rfl rfl (by simp [ownOK, hd, fzH, fzArgs, fz]) (by simp [U32, isD_u32, isD_v, isD_nil]) ?_
    simp only [go_sem, Nat.reduceAdd, Nat.reduceEqDiff, Nat.reduceLT, reduceIte, reduceCtorEq, Int.reduceLE, Int.reduceLT, Int.reduceEq, Int.reduceAdd, Int.reduceMul, Int.reduceSub, Nat.reduceMul, Nat.reduceSub, Nat.reducePow, Nat.reduceLeDiff, Int.reduceToNat, DD, x_app, x_ga0, x_gas, x_gan, Int.cast_ofNat_Int, eq_self, Int.zero_lt_one, Bool.not_false, Bool.not_true, beq_self_eq_true]
set_option maxRecDepth 100000 in
set_option maxHeartbeats 4000000 in
theorem natLong_sat (n m : Nat) (hn : n < 256) (hm : m < 256) : Sat CT false 5 [.v (.int .u8 (n : Nat)), .v (.int .u8 (m : Nat))] (Bo true) := by
  refine sat_of annuluslaw1_NatLong.ok (by simp) ?_
  have DD := annuluslaw1_NatLong.dr
  simp only [drP, drR, bodyOf, Tryd.f5, true_and, and_true] at DD
  simp only [go_sem, Nat.reduceAdd, Nat.reduceEqDiff, Nat.reduceLT, reduceIte, reduceCtorEq, Int.reduceLE, Int.reduceLT, Int.reduceEq, Int.reduceAdd, Int.reduceMul, Int.reduceSub, Nat.reduceMul, Nat.reduceSub, Nat.reducePow, Nat.reduceLeDiff, Int.reduceToNat, Tryd.f5, DD]
  obtain ⟨q1, q2⟩ := ones_div (n + 1) (m + 1)
  have hp := Nat.two_pow_pos (n + 1)
  have hpj := Nat.two_pow_pos (m + 1)
  have g1 := lim_pow2 (n + 1)
  have g2 := lim_pow2 (m + 1)
  have g0 := lim_pow2 n
  have g3 := lim_len_mono (Nat.sub_le (2 ^ (n + 1)) 1)
  have g4 := lim_len_mono (Nat.div_le_self (2 ^ (n + 1) - 1) (2 ^ (m + 1)))
  have g5 := lim_len_mono (Nat.mod_le (2 ^ (n + 1) - 1) (2 ^ (m + 1)))
  have g6 := lim_len_mono (Nat.sub_le (2 ^ n) 1)
  have g7 : (lim ((2 ^ n - 1) * 2 ^ (n + 1 + 1))).length ≤ 9 + 9 := lim_mul_len (by omega) (Nat.le_trans (lim_pow2 _) (by omega))
  have g8 : (lim ((2 ^ (n + 1) - 1) * (2 ^ (n + 1) - 1))).length ≤ 9 + 9 := lim_mul_len (by omega) (by omega)
  have h1 := shl_v (k := n + 1) Lm1 nv1 (by simp) (by omega)
  have h2 := shl_v (k := m + 1) Lm1 nv1 (by simp) (by omega)
  rw [Nat.one_mul] at h1 h2
  have s1 := sub_v (Lm_lim (2 ^ (n + 1))) Lm1 (nv_lim _) nv1 (by omega) (by simp) hp
  have d1 := div_v (Lm_lim (2 ^ (n + 1) - 1)) (Lm_lim (2 ^ (m + 1))) (nv_lim _) (nv_lim _) (by omega) (by omega) (Nat.ne_of_gt hpj)
  have b1 := bits_v (Lm_lim (2 ^ (n + 1) - 1)) (nv_lim _) (by omega)
  rw [bl_ones] at b1
  have a1 := add_v (Lm_lim (2 ^ (n + 1) - 1)) Lm1 (nv_lim _) nv1 (by omega) (by simp)
  rw [Nat.sub_add_cancel hp] at a1
  have y1 := same_v (x := 2 ^ (n + 1)) rfl (by omega)
  have l1 := low_v (Lm_lim (2 ^ (n + 1))) (nv_lim _) (by omega)
  rw [tz_pow] at l1
  have l2 := low_v (Lm_lim (2 ^ (n + 1) - 1)) (nv_lim _) (by omega)
  rw [tz_ones] at l2
  have b2 := bits_v (Lm_lim ((2 ^ (n + 1) - 1) / 2 ^ (m + 1))) (nv_lim _) (by omega)
  rw [q1] at b2
  have b3 := bits_v (Lm_lim ((2 ^ (n + 1) - 1) % 2 ^ (m + 1))) (nv_lim _) (by omega)
  rw [q2] at b3
  have m1 := mul_v (Lm_lim (2 ^ (n + 1) - 1)) (Lm_lim (2 ^ (n + 1) - 1)) (nv_lim _) (nv_lim _) (by omega) (by omega)
  have w1 := alow_sat n (by omega)
  have h3 := shl_v (k := n + 1 + 1) (Lm_lim (2 ^ n - 1)) (nv_lim _) (by omega) (by omega)
  have a2 := add_v (Lm_lim ((2 ^ n - 1) * 2 ^ (n + 1 + 1))) Lm1 (nv_lim _) nv1 (by omega) (by simp)
  rw [← ones_sq] at a2
  have y2 := same_v (x := (2 ^ (n + 1) - 1) * (2 ^ (n + 1) - 1)) rfl (by omega)
  have v1 : IntKind.i64.wrap (n : Int) = (n : Int) := wrap_i64 (by omega) (by omega)
  have v2 : IntKind.i64.wrap (m : Int) = (m : Int) := wrap_i64 (by omega) (by omega)
  have v3 := incI (j := n) (by omega)
  have v4 := incI (j := m) (by omega)
  have v5 : IntKind.i64.wrap (((n + 1 : Nat) : Int) - ((m + 1 : Nat) : Int)) = ((n + 1 : Nat) : Int) - ((m + 1 : Nat) : Int) := wrap_i64 (by omega) (by omega)
  have v6 : max (0 : Int) (((n + 1 : Nat) : Int) - ((m + 1 : Nat) : Int)) = ((n + 1 - (m + 1) : Nat) : Int) := by omega
  have v7 : min ((n + 1 : Nat) : Int) ((m + 1 : Nat) : Int) = ((min (n + 1) (m + 1) : Nat) : Int) := by omega
  have v8 := incI (j := n + 1) (by omega)
  refine callK_of false annuluslaw1_known.call (known_sat) rfl rfl (by simp [ownOK, hd, fzH, fzArgs, fz]) (by simp [U32, isD_u32, isD_v, isD_nil]) ?_
  simp only [go_sem, Nat.reduceAdd, Nat.reduceEqDiff, Nat.reduceLT, reduceIte, reduceCtorEq, Int.reduceLE, Int.reduceLT, Int.reduceEq, Int.reduceAdd, Int.reduceMul, Int.reduceSub, Nat.reduceMul, Nat.reduceSub, Nat.reducePow, Nat.reduceLeDiff, Int.reduceToNat, DD, x_app, x_ga0, x_gas, x_gan, Int.cast_ofNat_Int, eq_self, Int.zero_lt_one, Bool.not_false, Bool.not_true, beq_self_eq_true, v1, v2, v3, v4, v5, v6, v7, v8]
  refine callK_of false nat_Shl.call (h1) rfl rfl (by simp [ownOK, hd, fzH, fzArgs, fz]) (by simp [U32, isD_u32, isD_v, isD_nil]) ?_
  simp only [go_sem, Nat.reduceAdd, Nat.reduceEqDiff, Nat.reduceLT, reduceIte, reduceCtorEq, Int.reduceLE, Int.reduceLT, Int.reduceEq, Int.reduceAdd, Int.reduceMul, Int.reduceSub, Nat.reduceMul, Nat.reduceSub, Nat.reducePow, Nat.reduceLeDiff, Int.reduceToNat, DD, x_app, x_ga0, x_gas, x_gan, Int.cast_ofNat_Int, eq_self, Int.zero_lt_one, Bool.not_false, Bool.not_true, beq_self_eq_true, v1, v2, v3, v4, v5, v6, v7, v8]
  refine callK_of false nat_Sub.call (s1) rfl rfl (by simp [ownOK, hd, fzH, fzArgs, fz]) (by simp [U32, isD_u32, isD_v, isD_nil]) ?_
  simp only [go_sem, Nat.reduceAdd, Nat.reduceEqDiff, Nat.reduceLT, reduceIte, reduceCtorEq, Int.reduceLE, Int.reduceLT, Int.reduceEq, Int.reduceAdd, Int.reduceMul, Int.reduceSub, Nat.reduceMul, Nat.reduceSub, Nat.reducePow, Nat.reduceLeDiff, Int.reduceToNat, DD, x_app, x_ga0, x_gas, x_gan, Int.cast_ofNat_Int, eq_self, Int.zero_lt_one, Bool.not_false, Bool.not_true, beq_self_eq_true, v1, v2, v3, v4, v5, v6, v7, v8]
  refine callK_of false nat_Shl.call (h2) rfl rfl (by simp [ownOK, hd, fzH, fzArgs, fz]) (by simp [U32, isD_u32, isD_v, isD_nil]) ?_
  simp only [go_sem, Nat.reduceAdd, Nat.reduceEqDiff, Nat.reduceLT, reduceIte, reduceCtorEq, Int.reduceLE, Int.reduceLT, Int.reduceEq, Int.reduceAdd, Int.reduceMul, Int.reduceSub, Nat.reduceMul, Nat.reduceSub, Nat.reducePow, Nat.reduceLeDiff, Int.reduceToNat, DD, x_app, x_ga0, x_gas, x_gan, Int.cast_ofNat_Int, eq_self, Int.zero_lt_one, Bool.not_false, Bool.not_true, beq_self_eq_true, v1, v2, v3, v4, v5, v6, v7, v8]
  refine callK_of false nat_Div.call (d1) rfl rfl (by simp [ownOK, hd, fzH, fzArgs, fz]) (by simp [U32, isD_u32, isD_v, isD_nil]) ?_
  simp only [go_sem, Nat.reduceAdd, Nat.reduceEqDiff, Nat.reduceLT, reduceIte, reduceCtorEq, Int.reduceLE, Int.reduceLT, Int.reduceEq, Int.reduceAdd, Int.reduceMul, Int.reduceSub, Nat.reduceMul, Nat.reduceSub, Nat.reducePow, Nat.reduceLeDiff, Int.reduceToNat, DD, x_app, x_ga0, x_gas, x_gan, Int.cast_ofNat_Int, eq_self, Int.zero_lt_one, Bool.not_false, Bool.not_true, beq_self_eq_true, v1, v2, v3, v4, v5, v6, v7, v8]
  refine callK_of false nat_Bits.call (b1) rfl rfl (by simp [ownOK, hd, fzH, fzArgs, fz]) (by simp [U32, isD_u32, isD_v, isD_nil]) ?_
  simp only [go_sem, Nat.reduceAdd, Nat.reduceEqDiff, Nat.reduceLT, reduceIte, reduceCtorEq, Int.reduceLE, Int.reduceLT, Int.reduceEq, Int.reduceAdd, Int.reduceMul, Int.reduceSub, Nat.reduceMul, Nat.reduceSub, Nat.reducePow, Nat.reduceLeDiff, Int.reduceToNat, DD, x_app, x_ga0, x_gas, x_gan, Int.cast_ofNat_Int, eq_self, Int.zero_lt_one, Bool.not_false, Bool.not_true, beq_self_eq_true, v1, v2, v3, v4, v5, v6, v7, v8]
  refine callK_of false nat_Add.call (a1) rfl rfl (by simp [ownOK, hd, fzH, fzArgs, fz]) (by simp [U32, isD_u32, isD_v, isD_nil]) ?_
  simp only [go_sem, Nat.reduceAdd, Nat.reduceEqDiff, Nat.reduceLT, reduceIte, reduceCtorEq, Int.reduceLE, Int.reduceLT, Int.reduceEq, Int.reduceAdd, Int.reduceMul, Int.reduceSub, Nat.reduceMul, Nat.reduceSub, Nat.reducePow, Nat.reduceLeDiff, Int.reduceToNat, DD, x_app, x_ga0, x_gas, x_gan, Int.cast_ofNat_Int, eq_self, Int.zero_lt_one, Bool.not_false, Bool.not_true, beq_self_eq_true, v1, v2, v3, v4, v5, v6, v7, v8]
  refine callK_of false annulusref1_Same.call (y1) rfl rfl (by simp [ownOK, hd, fzH, fzArgs, fz]) (by simp [U32, isD_u32, isD_v, isD_nil]) ?_
  simp only [go_sem, Nat.reduceAdd, Nat.reduceEqDiff, Nat.reduceLT, reduceIte, reduceCtorEq, Int.reduceLE, Int.reduceLT, Int.reduceEq, Int.reduceAdd, Int.reduceMul, Int.reduceSub, Nat.reduceMul, Nat.reduceSub, Nat.reducePow, Nat.reduceLeDiff, Int.reduceToNat, DD, x_app, x_ga0, x_gas, x_gan, Int.cast_ofNat_Int, eq_self, Int.zero_lt_one, Bool.not_false, Bool.not_true, beq_self_eq_true, v1, v2, v3, v4, v5, v6, v7, v8]
  refine callK_of false nat_Low.call (l1) rfl rfl (by simp [ownOK, hd, fzH, fzArgs, fz]) (by simp [U32, isD_u32, isD_v, isD_nil]) ?_
  simp only [go_sem, Nat.reduceAdd, Nat.reduceEqDiff, Nat.reduceLT, reduceIte, reduceCtorEq, Int.reduceLE, Int.reduceLT, Int.reduceEq, Int.reduceAdd, Int.reduceMul, Int.reduceSub, Nat.reduceMul, Nat.reduceSub, Nat.reducePow, Nat.reduceLeDiff, Int.reduceToNat, DD, x_app, x_ga0, x_gas, x_gan, Int.cast_ofNat_Int, eq_self, Int.zero_lt_one, Bool.not_false, Bool.not_true, beq_self_eq_true, v1, v2, v3, v4, v5, v6, v7, v8]
  refine callK_of false nat_Low.call (l2) rfl rfl (by simp [ownOK, hd, fzH, fzArgs, fz]) (by simp [U32, isD_u32, isD_v, isD_nil]) ?_
  simp only [go_sem, Nat.reduceAdd, Nat.reduceEqDiff, Nat.reduceLT, reduceIte, reduceCtorEq, Int.reduceLE, Int.reduceLT, Int.reduceEq, Int.reduceAdd, Int.reduceMul, Int.reduceSub, Nat.reduceMul, Nat.reduceSub, Nat.reducePow, Nat.reduceLeDiff, Int.reduceToNat, DD, x_app, x_ga0, x_gas, x_gan, Int.cast_ofNat_Int, eq_self, Int.zero_lt_one, Bool.not_false, Bool.not_true, beq_self_eq_true, v1, v2, v3, v4, v5, v6, v7, v8]
  refine callK_of false nat_Bits.call (b2) rfl rfl (by simp [ownOK, hd, fzH, fzArgs, fz]) (by simp [U32, isD_u32, isD_v, isD_nil]) ?_
  simp only [go_sem, Nat.reduceAdd, Nat.reduceEqDiff, Nat.reduceLT, reduceIte, reduceCtorEq, Int.reduceLE, Int.reduceLT, Int.reduceEq, Int.reduceAdd, Int.reduceMul, Int.reduceSub, Nat.reduceMul, Nat.reduceSub, Nat.reducePow, Nat.reduceLeDiff, Int.reduceToNat, DD, x_app, x_ga0, x_gas, x_gan, Int.cast_ofNat_Int, eq_self, Int.zero_lt_one, Bool.not_false, Bool.not_true, beq_self_eq_true, v1, v2, v3, v4, v5, v6, v7, v8]
  refine callK_of false nat_Bits.call (b3) rfl rfl (by simp [ownOK, hd, fzH, fzArgs, fz]) (by simp [U32, isD_u32, isD_v, isD_nil]) ?_
  simp only [go_sem, Nat.reduceAdd, Nat.reduceEqDiff, Nat.reduceLT, reduceIte, reduceCtorEq, Int.reduceLE, Int.reduceLT, Int.reduceEq, Int.reduceAdd, Int.reduceMul, Int.reduceSub, Nat.reduceMul, Nat.reduceSub, Nat.reducePow, Nat.reduceLeDiff, Int.reduceToNat, DD, x_app, x_ga0, x_gas, x_gan, Int.cast_ofNat_Int, eq_self, Int.zero_lt_one, Bool.not_false, Bool.not_true, beq_self_eq_true, v1, v2, v3, v4, v5, v6, v7, v8]
  refine callK_of false nat_Mul.call (m1) rfl rfl (by simp [ownOK, hd, fzH, fzArgs, fz]) (by simp [U32, isD_u32, isD_v, isD_nil]) ?_
  simp only [go_sem, Nat.reduceAdd, Nat.reduceEqDiff, Nat.reduceLT, reduceIte, reduceCtorEq, Int.reduceLE, Int.reduceLT, Int.reduceEq, Int.reduceAdd, Int.reduceMul, Int.reduceSub, Nat.reduceMul, Nat.reduceSub, Nat.reducePow, Nat.reduceLeDiff, Int.reduceToNat, DD, x_app, x_ga0, x_gas, x_gan, Int.cast_ofNat_Int, eq_self, Int.zero_lt_one, Bool.not_false, Bool.not_true, beq_self_eq_true, v1, v2, v3, v4, v5, v6, v7, v8]
  refine callK_of false annuluslaw1_low.call (w1) rfl rfl (by simp [ownOK, hd, fzH, fzArgs, fz]) (by simp [U32, isD_u32, isD_v, isD_nil]) ?_
  simp only [go_sem, Nat.reduceAdd, Nat.reduceEqDiff, Nat.reduceLT, reduceIte, reduceCtorEq, Int.reduceLE, Int.reduceLT, Int.reduceEq, Int.reduceAdd, Int.reduceMul, Int.reduceSub, Nat.reduceMul, Nat.reduceSub, Nat.reducePow, Nat.reduceLeDiff, Int.reduceToNat, DD, x_app, x_ga0, x_gas, x_gan, Int.cast_ofNat_Int, eq_self, Int.zero_lt_one, Bool.not_false, Bool.not_true, beq_self_eq_true, v1, v2, v3, v4, v5, v6, v7, v8]
  refine callK_of false nat_Shl.call (h3) rfl rfl (by simp [ownOK, hd, fzH, fzArgs, fz]) (by simp [U32, isD_u32, isD_v, isD_nil]) ?_
  simp only [go_sem, Nat.reduceAdd, Nat.reduceEqDiff, Nat.reduceLT, reduceIte, reduceCtorEq, Int.reduceLE, Int.reduceLT, Int.reduceEq, Int.reduceAdd, Int.reduceMul, Int.reduceSub, Nat.reduceMul, Nat.reduceSub, Nat.reducePow, Nat.reduceLeDiff, Int.reduceToNat, DD, x_app, x_ga0, x_gas, x_gan, Int.cast_ofNat_Int, eq_self, Int.zero_lt_one, Bool.not_false, Bool.not_true, beq_self_eq_true, v1, v2, v3, v4, v5, v6, v7, v8]
  refine callK_of false nat_Add.call (a2) rfl rfl (by simp [ownOK, hd, fzH, fzArgs, fz]) (by simp [U32, isD_u32, isD_v, isD_nil]) ?_
  simp only [go_sem, Nat.reduceAdd, Nat.reduceEqDiff, Nat.reduceLT, reduceIte, reduceCtorEq, Int.reduceLE, Int.reduceLT, Int.reduceEq, Int.reduceAdd, Int.reduceMul, Int.reduceSub, Nat.reduceMul, Nat.reduceSub, Nat.reducePow, Nat.reduceLeDiff, Int.reduceToNat, DD, x_app, x_ga0, x_gas, x_gan, Int.cast_ofNat_Int, eq_self, Int.zero_lt_one, Bool.not_false, Bool.not_true, beq_self_eq_true, v1, v2, v3, v4, v5, v6, v7, v8]
  refine callK_of false annulusref1_Same.call (y2) rfl rfl (by simp [ownOK, hd, fzH, fzArgs, fz]) (by simp [U32, isD_u32, isD_v, isD_nil]) ?_
  simp only [go_sem, Nat.reduceAdd, Nat.reduceEqDiff, Nat.reduceLT, reduceIte, reduceCtorEq, Int.reduceLE, Int.reduceLT, Int.reduceEq, Int.reduceAdd, Int.reduceMul, Int.reduceSub, Nat.reduceMul, Nat.reduceSub, Nat.reducePow, Nat.reduceLeDiff, Int.reduceToNat, DD, x_app, x_ga0, x_gas, x_gan, Int.cast_ofNat_Int, eq_self, Int.zero_lt_one, Bool.not_false, Bool.not_true, beq_self_eq_true, v1, v2, v3, v4, v5, v6, v7, v8]
end Go.Ab

/- Contracts of this seat's functions (of each call: what it answers), walked over the abstract machine, and the laws of numbers that they want. Conditions: those that each theorem states. -/
import Derived.Test.YtchgjgffikdcnaaDoorN18
set_option linter.unusedVariables false
set_option linter.unusedSimpArgs false
namespace Go.Ab
open Go.Proofs

/-! contracts of canonical limbs -/
section
variable {a b : List Nat} {x y : Nat}
theorem add_v (ha : Lm a) (hb : Lm b) (hx : nv a = x) (hy : nv b = y) (la : a.length < 1099511627776) (lb : b.length < 1099511627776) : Sat CT false 24 [U32 a, U32 b] (U32 (lim (x + y))) := by
  subst hx hy; exact nat_add_sat a b ha hb la lb
theorem mul_v (ha : Lm a) (hb : Lm b) (hx : nv a = x) (hy : nv b = y) (la : a.length < 1099511627776) (lb : b.length < 1099511627776) : Sat CT false 25 [U32 a, U32 b] (U32 (lim (x * y))) := by
  subst hx hy; exact mul_sat a b ha hb la lb
theorem cmp_v (ha : Lm a) (hb : Lm b) (hx : nv a = x) (hy : nv b = y) (la : a.length < 1099511627776) (lb : b.length < 1099511627776) : Sat CT false 23 [U32 a, U32 b] (I64 (cmpN x y)) := by
  subst hx hy; exact cmp_sat a b ha hb la lb
theorem sub_v (ha : Lm a) (hb : Lm b) (hx : nv a = x) (hy : nv b = y) (la : a.length < 1099511627776) (lb : b.length < 1099511627776) (h : y ≤ x) : Sat CT false 26 [U32 a, U32 b] (.tup [U32 (lim (x - y)), Bo true]) := by
  subst hx hy; exact sub_ok a b ha hb la lb h
theorem shl_v {k : Nat} (ha : Lm a) (hx : nv a = x) (la : a.length < 1099511627776) (hk : k ≤ 100000) : Sat CT false 13 [U32 a, I64 (k : Nat)] (U32 (lim (x * 2 ^ k))) := by
  subst hx; have := shl_sat a (k : Int) ha la; rwa [shN_of hk] at this
theorem shr_v {k : Nat} (ha : Lm a) (hx : nv a = x) (la : a.length < 1099511627776) (hk : k ≤ 100000) : Sat CT false 15 [U32 a, I64 (k : Nat)] (U32 (lim (x / 2 ^ k))) := by
  subst hx; have := shr_sat a (k : Int) ha la; rwa [shN_of hk] at this
theorem div_v (ha : Lm a) (hb : Lm b) (hx : nv a = x) (hy : nv b = y) (la : a.length < 1099511627) (lb : b.length < 1099511627) (h : y ≠ 0) : Sat CT false 27 [U32 a, U32 b] (.tup [U32 (lim (x / y)), U32 (lim (x % y)), Bo true]) := by
  subst hx hy; exact div_sat a b ha hb la lb h
theorem bits_v (ha : Lm a) (hx : nv a = x) (la : a.length < 1099511627776) : Sat CT false 17 [U32 a] (I64 (bl x : Nat)) := by
  subst hx; exact bits_sat a ha la
theorem low_v (ha : Lm a) (hx : nv a = x) (la : a.length < 1099511627776) : Sat CT false 19 [U32 a] (I64 (tz x : Nat)) := by
  subst hx; exact low_sat a ha la
theorem root_v (ha : Lm a) (hx : nv a = x) (la : a.length ≤ 6000) : Sat CT false 21 [U32 a] (U32 (lim (isq x))) := by
  subst hx; exact root_sat a ha la
theorem trim_v (ha : Lm a) (hx : nv a = x) (la : a.length < 1099511627776) : Sat CT false 33 [U32 a] (U32 (lim x)) := by
  subst hx; have := trim_sat a la; rwa [cutL_lim ha] at this
theorem is_v (n : Nat) (la : (lim n).length < 1099511627776) : Sat CT false 31 [U32 (lim n)] (Bo true) := by
  have := is_sat (lim n) la
  rwa [cutL_lim (Lm_lim n), nv_lim, decide_eq_true rfl] at this
theorem same_v (h : x = y) (lx : (lim x).length < 1099511627776) : Sat CT false 12 [U32 (lim x), U32 (lim y)] (Bo true) := same_yes _ _ (by rw [h]) lx
end
theorem cmpN_congr {a b c d : Nat} (h1 : a < b ↔ c < d) (h2 : b < a ↔ d < c) : cmpN a b = cmpN c d := by
  unfold cmpN; simp only [h1, h2]
theorem cmpN_swap (a b : Nat) : cmpN b a = - cmpN a b := by
  unfold cmpN
  (repeat' split) <;> omega
theorem cmpN_range (a b : Nat) : -1 ≤ cmpN a b ∧ cmpN a b ≤ 1 := by
  unfold cmpN; split
  · omega
  · split <;> omega
theorem cmpN_add (a b c : Nat) : cmpN (a + c) (b + c) = cmpN a b := cmpN_congr (by omega) (by omega)
theorem cmpN_mul (a b : Nat) {c : Nat} (h : 0 < c) : cmpN (a * c) (b * c) = cmpN a b := cmpN_congr (Nat.mul_lt_mul_right h) (Nat.mul_lt_mul_right h)
theorem cmpN_refl (a : Nat) : cmpN a a = 0 := cmpN_eq rfl
theorem cmpN_trans {a b c : Nat} (h : cmpN a b = cmpN b c) (h0 : cmpN a b ≠ 0) : cmpN a c = cmpN a b := by
  have e : ∀ x y : Nat, cmpN x y = -1 ↔ x < y := fun x y => by
    unfold cmpN
    by_cases q : x < y
    · simp [q]
    · rw [if_neg q]; split <;> simp [q]
  have e2 : ∀ x y : Nat, cmpN x y = 1 ↔ y < x := fun x y => by
    have := cmpN_posi (x := x) (y := y)
    have := cmpN_range x y
    omega
  have r := cmpN_range a b
  rcases Int.lt_or_gt_of_ne h0 with q | q
  · have h1 : cmpN a b = -1 := by omega
    rw [h1, (e a c)]
    rw [h1] at h
    have := (e a b).mp h1
    have := (e b c).mp h.symm
    omega
  · have h1 : cmpN a b = 1 := by omega
    rw [h1, (e2 a c)]
    rw [h1] at h
    have := (e2 a b).mp h1
    have := (e2 b c).mp h.symm
    omega
theorem neg_wrap {x : Int} (h1 : -1 ≤ x) (h2 : x ≤ 1) : IntKind.i64.wrap (0 - x) = -x := by rw [wrap_i64 (by omega) (by omega)]; omega
theorem beq_dec {m n : Nat} : (decide (m = n) == decide ((m : Int) = (n : Int))) = true := by
  by_cases h : m = n
  · simp [h]
  · have : ¬ (m : Int) = (n : Int) := by omega
    have e1 : decide (m = n) = false := decide_eq_false h
    have e2 : decide ((m : Int) = (n : Int)) = false := decide_eq_false this
    rw [e1, e2]; rfl
set_option maxRecDepth 100000 in
set_option maxHeartbeats 4000000 in
theorem natOrder_sat (a b c : List Nat) (n : Nat) (ha : Lm a) (hb : Lm b) (hc : Lm c) (hn : n < 256) : Sat CT false 4 [U32 a, U32 b, U32 c, .v (.int .u8 (n : Nat))] (Bo true) := by
  refine sat_of annuluslaw1_NatOrder.ok (by simp) ?_
  have DD := annuluslaw1_NatOrder.dr
  simp only [drP, drR, bodyOf, Tryd.f4, true_and, and_true] at DD
  simp only [go_sem, Nat.reduceAdd, Nat.reduceEqDiff, Nat.reduceLT, reduceIte, reduceCtorEq, Int.reduceLE, Int.reduceLT, Int.reduceEq, Int.reduceAdd, Int.reduceMul, Int.reduceSub, Nat.reduceMul, Nat.reduceSub, Nat.reducePow, Nat.reduceLeDiff, Int.reduceToNat, Tryd.f4, DD]
  refine callK_of false annuluslaw1_known.call (known_sat) rfl rfl (by simp [ownOK, hd, fzH, fzArgs, fz]) (by simp [U32, isD_u32, isD_v, isD_nil]) ?_
  simp only [go_sem, Nat.reduceAdd, Nat.reduceEqDiff, Nat.reduceLT, reduceIte, reduceCtorEq, Int.reduceLE, Int.reduceLT, Int.reduceEq, Int.reduceAdd, Int.reduceMul, Int.reduceSub, Nat.reduceMul, Nat.reduceSub, Nat.reducePow, Nat.reduceLeDiff, Int.reduceToNat, DD, x_app, x_ga0, x_gas, x_gan, Int.cast_ofNat_Int, eq_self, Int.zero_lt_one, Bool.not_false, Bool.not_true, beq_self_eq_true]
  by_cases hfa : a.length ≤ 24
  · skip
    refine callK_of false annuluslaw1_few.call (few_yes a hfa) rfl rfl (by simp [ownOK, hd, fzH, fzArgs, fz]) (by simp [U32, isD_u32, isD_v, isD_nil]) ?_
    simp only [go_sem, Nat.reduceAdd, Nat.reduceEqDiff, Nat.reduceLT, reduceIte, reduceCtorEq, Int.reduceLE, Int.reduceLT, Int.reduceEq, Int.reduceAdd, Int.reduceMul, Int.reduceSub, Nat.reduceMul, Nat.reduceSub, Nat.reducePow, Nat.reduceLeDiff, Int.reduceToNat, DD, x_app, x_ga0, x_gas, x_gan, Int.cast_ofNat_Int, eq_self, Int.zero_lt_one, Bool.not_false, Bool.not_true, beq_self_eq_true]
    by_cases hfb : b.length ≤ 24
    · skip
      refine callK_of false annuluslaw1_few.call (few_yes b hfb) rfl rfl (by simp [ownOK, hd, fzH, fzArgs, fz]) (by simp [U32, isD_u32, isD_v, isD_nil]) ?_
      simp only [go_sem, Nat.reduceAdd, Nat.reduceEqDiff, Nat.reduceLT, reduceIte, reduceCtorEq, Int.reduceLE, Int.reduceLT, Int.reduceEq, Int.reduceAdd, Int.reduceMul, Int.reduceSub, Nat.reduceMul, Nat.reduceSub, Nat.reducePow, Nat.reduceLeDiff, Int.reduceToNat, DD, x_app, x_ga0, x_gas, x_gan, Int.cast_ofNat_Int, eq_self, Int.zero_lt_one, Bool.not_false, Bool.not_true, beq_self_eq_true]
      by_cases hfc : c.length ≤ 24
      · skip
        refine callK_of false annuluslaw1_few.call (few_yes c hfc) rfl rfl (by simp [ownOK, hd, fzH, fzArgs, fz]) (by simp [U32, isD_u32, isD_v, isD_nil]) ?_
        simp only [go_sem, Nat.reduceAdd, Nat.reduceEqDiff, Nat.reduceLT, reduceIte, reduceCtorEq, Int.reduceLE, Int.reduceLT, Int.reduceEq, Int.reduceAdd, Int.reduceMul, Int.reduceSub, Nat.reduceMul, Nat.reduceSub, Nat.reducePow, Nat.reduceLeDiff, Int.reduceToNat, DD, x_app, x_ga0, x_gas, x_gan, Int.cast_ofNat_Int, eq_self, Int.zero_lt_one, Bool.not_false, Bool.not_true, beq_self_eq_true]
        have ra := cmpN_range (nv a) (nv b)
        have s1 := cmp_v ha hb rfl rfl (by omega) (by omega)
        have s2 := cmp_v hb hc rfl rfl (by omega) (by omega)
        have s3 := cmp_v hb ha rfl rfl (by omega) (by omega)
        rw [cmpN_swap] at s3
        have hA := nv_lt_of ha hfa
        have hB := nv_lt_of hb hfb
        have hC := nv_lt_of hc hfc
        have g1 : (lim (nv a + nv c)).length ≤ 25 := lim_add_len (lim_nv_len ha hfa (Nat.le_refl _)) (lim_nv_len hc hfc (Nat.le_refl _))
        have g2 : (lim (nv b + nv c)).length ≤ 25 := lim_add_len (lim_nv_len hb hfb (Nat.le_refl _)) (lim_nv_len hc hfc (Nat.le_refl _))
        have g3 : (lim (nv c + 1)).length ≤ 25 := lim_add_len (lim_nv_len hc hfc (Nat.le_refl _)) (lim_length_le (by omega))
        have g4 : (lim (nv a * (nv c + 1))).length ≤ 49 := lim_mul_len (lim_nv_len ha hfa (Nat.le_refl _)) g3
        have g5 : (lim (nv b * (nv c + 1))).length ≤ 49 := lim_mul_len (lim_nv_len hb hfb (Nat.le_refl _)) g3
        have g6 := lim_shl_len ha hfa n
        have g7 := lim_shl_len hb hfb n
        clear hA hB hC
        have a1 := add_v ha hc rfl rfl (by omega) (by omega)
        have a2 := add_v hb hc rfl rfl (by omega) (by omega)
        have s4 := cmp_v (Lm_lim (nv a + nv c)) (Lm_lim (nv b + nv c)) (nv_lim _) (nv_lim _) (by omega) (by omega)
        rw [cmpN_add] at s4
        have h1 := shl_v (k := n) ha rfl (by omega) (by omega)
        have h2 := shl_v (k := n) hb rfl (by omega) (by omega)
        have s5 := cmp_v (Lm_lim (nv a * 2 ^ n)) (Lm_lim (nv b * 2 ^ n)) (nv_lim _) (nv_lim _) (by omega) (by omega)
        rw [cmpN_mul _ _ (Nat.two_pow_pos n)] at s5
        have s6 := cmp_v ha ha rfl rfl (by omega) (by omega)
        rw [cmpN_refl] at s6
        have a3 := add_v hc Lm1 rfl nv1 (by omega) (by simp)
        have m1 := mul_v ha (Lm_lim (nv c + 1)) rfl (nv_lim _) (by omega) (by omega)
        have m2 := mul_v hb (Lm_lim (nv c + 1)) rfl (nv_lim _) (by omega) (by omega)
        have s7 := cmp_v (Lm_lim (nv a * (nv c + 1))) (Lm_lim (nv b * (nv c + 1))) (nv_lim _) (nv_lim _) (by omega) (by omega)
        rw [cmpN_mul _ _ (Nat.succ_pos _)] at s7
        have s8 : cmpN (nv a) (nv b) = cmpN (nv b) (nv c) → cmpN (nv a) (nv b) ≠ 0 → Sat CT false 23 [U32 a, U32 c] (I64 (cmpN (nv a) (nv b))) := fun q0 q1 => by
          have := cmp_v ha hc rfl rfl (by omega) (by omega)
          rwa [cmpN_trans q0 q1] at this
        have hb1 := bits_v ha rfl (by omega)
        have hb2 := bits_v hb rfl (by omega)
        have hbl : ¬ cmpN (nv a) (nv b) ≤ 0 → ((bl (nv b) : Nat) : Int) ≤ ((bl (nv a) : Nat) : Int) := fun q => by
          have := cmpN_posi (x := nv a) (y := nv b)
          have := bl_mono (x := nv b) (y := nv a) (by omega)
          omega
        have w1 : IntKind.i64.wrap (n : Int) = (n : Int) := wrap_i64 (by omega) (by omega)
        have w2 := neg_wrap ra.1 ra.2
        generalize cmpN (nv a) (nv b) = x at *
        generalize cmpN (nv b) (nv c) = y at *
        refine callK_of false nat_Cmp.call (s1) rfl rfl (by simp [ownOK, hd, fzH, fzArgs, fz]) (by simp [U32, isD_u32, isD_v, isD_nil]) ?_
        simp only [go_sem, Nat.reduceAdd, Nat.reduceEqDiff, Nat.reduceLT, reduceIte, reduceCtorEq, Int.reduceLE, Int.reduceLT, Int.reduceEq, Int.reduceAdd, Int.reduceMul, Int.reduceSub, Nat.reduceMul, Nat.reduceSub, Nat.reducePow, Nat.reduceLeDiff, Int.reduceToNat, DD, x_app, x_ga0, x_gas, x_gan, Int.cast_ofNat_Int, eq_self, Int.zero_lt_one, Bool.not_false, Bool.not_true, beq_self_eq_true, w1]
        by_cases xy : x = y
        · by_cases xz : x = 0
          · have xy2 : ¬ (¬ x = y) := fun q => q xy
            have x0 : x ≤ 0 := by omega
            subst xz
            subst xy
            have w0 : IntKind.i64.wrap 0 = 0 := rfl
            refine callK_of false nat_Cmp.call (s2) rfl rfl (by simp [ownOK, hd, fzH, fzArgs, fz]) (by simp [U32, isD_u32, isD_v, isD_nil]) ?_
            simp only [go_sem, Nat.reduceAdd, Nat.reduceEqDiff, Nat.reduceLT, reduceIte, reduceCtorEq, Int.reduceLE, Int.reduceLT, Int.reduceEq, Int.reduceAdd, Int.reduceMul, Int.reduceSub, Nat.reduceMul, Nat.reduceSub, Nat.reducePow, Nat.reduceLeDiff, Int.reduceToNat, DD, x_app, x_ga0, x_gas, x_gan, Int.cast_ofNat_Int, eq_self, Int.zero_lt_one, Bool.not_false, Bool.not_true, beq_self_eq_true, w1]
            refine callK_of false nat_Cmp.call (s3) rfl rfl (by simp [ownOK, hd, fzH, fzArgs, fz]) (by simp [U32, isD_u32, isD_v, isD_nil]) ?_
            simp only [go_sem, Nat.reduceAdd, Nat.reduceEqDiff, Nat.reduceLT, reduceIte, reduceCtorEq, Int.reduceLE, Int.reduceLT, Int.reduceEq, Int.reduceAdd, Int.reduceMul, Int.reduceSub, Nat.reduceMul, Nat.reduceSub, Nat.reducePow, Nat.reduceLeDiff, Int.reduceToNat, DD, x_app, x_ga0, x_gas, x_gan, Int.cast_ofNat_Int, eq_self, Int.zero_lt_one, Bool.not_false, Bool.not_true, beq_self_eq_true, w1, w2, w0, Int.neg_zero, x0]
            refine callK_of false nat_Add.call (a1) rfl rfl (by simp [ownOK, hd, fzH, fzArgs, fz]) (by simp [U32, isD_u32, isD_v, isD_nil]) ?_
            simp only [go_sem, Nat.reduceAdd, Nat.reduceEqDiff, Nat.reduceLT, reduceIte, reduceCtorEq, Int.reduceLE, Int.reduceLT, Int.reduceEq, Int.reduceAdd, Int.reduceMul, Int.reduceSub, Nat.reduceMul, Nat.reduceSub, Nat.reducePow, Nat.reduceLeDiff, Int.reduceToNat, DD, x_app, x_ga0, x_gas, x_gan, Int.cast_ofNat_Int, eq_self, Int.zero_lt_one, Bool.not_false, Bool.not_true, beq_self_eq_true, w1, w2, w0, Int.neg_zero, x0]
            refine callK_of false nat_Add.call (a2) rfl rfl (by simp [ownOK, hd, fzH, fzArgs, fz]) (by simp [U32, isD_u32, isD_v, isD_nil]) ?_
            simp only [go_sem, Nat.reduceAdd, Nat.reduceEqDiff, Nat.reduceLT, reduceIte, reduceCtorEq, Int.reduceLE, Int.reduceLT, Int.reduceEq, Int.reduceAdd, Int.reduceMul, Int.reduceSub, Nat.reduceMul, Nat.reduceSub, Nat.reducePow, Nat.reduceLeDiff, Int.reduceToNat, DD, x_app, x_ga0, x_gas, x_gan, Int.cast_ofNat_Int, eq_self, Int.zero_lt_one, Bool.not_false, Bool.not_true, beq_self_eq_true, w1, w2, w0, Int.neg_zero, x0]
            refine callK_of false nat_Cmp.call (s4) rfl rfl (by simp [ownOK, hd, fzH, fzArgs, fz]) (by simp [U32, isD_u32, isD_v, isD_nil]) ?_
            simp only [go_sem, Nat.reduceAdd, Nat.reduceEqDiff, Nat.reduceLT, reduceIte, reduceCtorEq, Int.reduceLE, Int.reduceLT, Int.reduceEq, Int.reduceAdd, Int.reduceMul, Int.reduceSub, Nat.reduceMul, Nat.reduceSub, Nat.reducePow, Nat.reduceLeDiff, Int.reduceToNat, DD, x_app, x_ga0, x_gas, x_gan, Int.cast_ofNat_Int, eq_self, Int.zero_lt_one, Bool.not_false, Bool.not_true, beq_self_eq_true, w1, w2, w0, Int.neg_zero, x0]
            refine callK_of false nat_Shl.call (h1) rfl rfl (by simp [ownOK, hd, fzH, fzArgs, fz]) (by simp [U32, isD_u32, isD_v, isD_nil]) ?_
            simp only [go_sem, Nat.reduceAdd, Nat.reduceEqDiff, Nat.reduceLT, reduceIte, reduceCtorEq, Int.reduceLE, Int.reduceLT, Int.reduceEq, Int.reduceAdd, Int.reduceMul, Int.reduceSub, Nat.reduceMul, Nat.reduceSub, Nat.reducePow, Nat.reduceLeDiff, Int.reduceToNat, DD, x_app, x_ga0, x_gas, x_gan, Int.cast_ofNat_Int, eq_self, Int.zero_lt_one, Bool.not_false, Bool.not_true, beq_self_eq_true, w1, w2, w0, Int.neg_zero, x0]
            refine callK_of false nat_Shl.call (h2) rfl rfl (by simp [ownOK, hd, fzH, fzArgs, fz]) (by simp [U32, isD_u32, isD_v, isD_nil]) ?_
            simp only [go_sem, Nat.reduceAdd, Nat.reduceEqDiff, Nat.reduceLT, reduceIte, reduceCtorEq, Int.reduceLE, Int.reduceLT, Int.reduceEq, Int.reduceAdd, Int.reduceMul, Int.reduceSub, Nat.reduceMul, Nat.reduceSub, Nat.reducePow, Nat.reduceLeDiff, Int.reduceToNat, DD, x_app, x_ga0, x_gas, x_gan, Int.cast_ofNat_Int, eq_self, Int.zero_lt_one, Bool.not_false, Bool.not_true, beq_self_eq_true, w1, w2, w0, Int.neg_zero, x0]
            refine callK_of false nat_Cmp.call (s5) rfl rfl (by simp [ownOK, hd, fzH, fzArgs, fz]) (by simp [U32, isD_u32, isD_v, isD_nil]) ?_
            simp only [go_sem, Nat.reduceAdd, Nat.reduceEqDiff, Nat.reduceLT, reduceIte, reduceCtorEq, Int.reduceLE, Int.reduceLT, Int.reduceEq, Int.reduceAdd, Int.reduceMul, Int.reduceSub, Nat.reduceMul, Nat.reduceSub, Nat.reducePow, Nat.reduceLeDiff, Int.reduceToNat, DD, x_app, x_ga0, x_gas, x_gan, Int.cast_ofNat_Int, eq_self, Int.zero_lt_one, Bool.not_false, Bool.not_true, beq_self_eq_true, w1, w2, w0, Int.neg_zero, x0]
            refine callK_of false nat_Cmp.call (s6) rfl rfl (by simp [ownOK, hd, fzH, fzArgs, fz]) (by simp [U32, isD_u32, isD_v, isD_nil]) ?_
            simp only [go_sem, Nat.reduceAdd, Nat.reduceEqDiff, Nat.reduceLT, reduceIte, reduceCtorEq, Int.reduceLE, Int.reduceLT, Int.reduceEq, Int.reduceAdd, Int.reduceMul, Int.reduceSub, Nat.reduceMul, Nat.reduceSub, Nat.reducePow, Nat.reduceLeDiff, Int.reduceToNat, DD, x_app, x_ga0, x_gas, x_gan, Int.cast_ofNat_Int, eq_self, Int.zero_lt_one, Bool.not_false, Bool.not_true, beq_self_eq_true, w1, w2, w0, Int.neg_zero, x0]
            refine callK_of false nat_Add.call (a3) rfl rfl (by simp [ownOK, hd, fzH, fzArgs, fz]) (by simp [U32, isD_u32, isD_v, isD_nil]) ?_
            simp only [go_sem, Nat.reduceAdd, Nat.reduceEqDiff, Nat.reduceLT, reduceIte, reduceCtorEq, Int.reduceLE, Int.reduceLT, Int.reduceEq, Int.reduceAdd, Int.reduceMul, Int.reduceSub, Nat.reduceMul, Nat.reduceSub, Nat.reducePow, Nat.reduceLeDiff, Int.reduceToNat, DD, x_app, x_ga0, x_gas, x_gan, Int.cast_ofNat_Int, eq_self, Int.zero_lt_one, Bool.not_false, Bool.not_true, beq_self_eq_true, w1, w2, w0, Int.neg_zero, x0]
            refine callK_of false nat_Mul.call (m1) rfl rfl (by simp [ownOK, hd, fzH, fzArgs, fz]) (by simp [U32, isD_u32, isD_v, isD_nil]) ?_
            simp only [go_sem, Nat.reduceAdd, Nat.reduceEqDiff, Nat.reduceLT, reduceIte, reduceCtorEq, Int.reduceLE, Int.reduceLT, Int.reduceEq, Int.reduceAdd, Int.reduceMul, Int.reduceSub, Nat.reduceMul, Nat.reduceSub, Nat.reducePow, Nat.reduceLeDiff, Int.reduceToNat, DD, x_app, x_ga0, x_gas, x_gan, Int.cast_ofNat_Int, eq_self, Int.zero_lt_one, Bool.not_false, Bool.not_true, beq_self_eq_true, w1, w2, w0, Int.neg_zero, x0]
            refine callK_of false nat_Add.call (a3) rfl rfl (by simp [ownOK, hd, fzH, fzArgs, fz]) (by simp [U32, isD_u32, isD_v, isD_nil]) ?_
            simp only [go_sem, Nat.reduceAdd, Nat.reduceEqDiff, Nat.reduceLT, reduceIte, reduceCtorEq, Int.reduceLE, Int.reduceLT, Int.reduceEq, Int.reduceAdd, Int.reduceMul, Int.reduceSub, Nat.reduceMul, Nat.reduceSub, Nat.reducePow, Nat.reduceLeDiff, Int.reduceToNat, DD, x_app, x_ga0, x_gas, x_gan, Int.cast_ofNat_Int, eq_self, Int.zero_lt_one, Bool.not_false, Bool.not_true, beq_self_eq_true, w1, w2, w0, Int.neg_zero, x0]
            refine callK_of false nat_Mul.call (m2) rfl rfl (by simp [ownOK, hd, fzH, fzArgs, fz]) (by simp [U32, isD_u32, isD_v, isD_nil]) ?_
            simp only [go_sem, Nat.reduceAdd, Nat.reduceEqDiff, Nat.reduceLT, reduceIte, reduceCtorEq, Int.reduceLE, Int.reduceLT, Int.reduceEq, Int.reduceAdd, Int.reduceMul, Int.reduceSub, Nat.reduceMul, Nat.reduceSub, Nat.reducePow, Nat.reduceLeDiff, Int.reduceToNat, DD, x_app, x_ga0, x_gas, x_gan, Int.cast_ofNat_Int, eq_self, Int.zero_lt_one, Bool.not_false, Bool.not_true, beq_self_eq_true, w1, w2, w0, Int.neg_zero, x0]
            refine callK_of false nat_Cmp.call (s7) rfl rfl (by simp [ownOK, hd, fzH, fzArgs, fz]) (by simp [U32, isD_u32, isD_v, isD_nil]) ?_
            simp only [go_sem, Nat.reduceAdd, Nat.reduceEqDiff, Nat.reduceLT, reduceIte, reduceCtorEq, Int.reduceLE, Int.reduceLT, Int.reduceEq, Int.reduceAdd, Int.reduceMul, Int.reduceSub, Nat.reduceMul, Nat.reduceSub, Nat.reducePow, Nat.reduceLeDiff, Int.reduceToNat, DD, x_app, x_ga0, x_gas, x_gan, Int.cast_ofNat_Int, eq_self, Int.zero_lt_one, Bool.not_false, Bool.not_true, beq_self_eq_true, w1, w2, w0, Int.neg_zero, x0]
          · subst xy
            refine callK_of false nat_Cmp.call (s2) rfl rfl (by simp [ownOK, hd, fzH, fzArgs, fz]) (by simp [U32, isD_u32, isD_v, isD_nil]) ?_
            simp only [go_sem, Nat.reduceAdd, Nat.reduceEqDiff, Nat.reduceLT, reduceIte, reduceCtorEq, Int.reduceLE, Int.reduceLT, Int.reduceEq, Int.reduceAdd, Int.reduceMul, Int.reduceSub, Nat.reduceMul, Nat.reduceSub, Nat.reducePow, Nat.reduceLeDiff, Int.reduceToNat, DD, x_app, x_ga0, x_gas, x_gan, Int.cast_ofNat_Int, eq_self, Int.zero_lt_one, Bool.not_false, Bool.not_true, beq_self_eq_true, w1, xz]
            refine callK_of false nat_Cmp.call (s8 rfl xz) rfl rfl (by simp [ownOK, hd, fzH, fzArgs, fz]) (by simp [U32, isD_u32, isD_v, isD_nil]) ?_
            simp only [go_sem, Nat.reduceAdd, Nat.reduceEqDiff, Nat.reduceLT, reduceIte, reduceCtorEq, Int.reduceLE, Int.reduceLT, Int.reduceEq, Int.reduceAdd, Int.reduceMul, Int.reduceSub, Nat.reduceMul, Nat.reduceSub, Nat.reducePow, Nat.reduceLeDiff, Int.reduceToNat, DD, x_app, x_ga0, x_gas, x_gan, Int.cast_ofNat_Int, eq_self, Int.zero_lt_one, Bool.not_false, Bool.not_true, beq_self_eq_true, w1, xz]
            by_cases x0 : x ≤ 0
            · skip
              refine callK_of false nat_Cmp.call (s3) rfl rfl (by simp [ownOK, hd, fzH, fzArgs, fz]) (by simp [U32, isD_u32, isD_v, isD_nil]) ?_
              simp only [go_sem, Nat.reduceAdd, Nat.reduceEqDiff, Nat.reduceLT, reduceIte, reduceCtorEq, Int.reduceLE, Int.reduceLT, Int.reduceEq, Int.reduceAdd, Int.reduceMul, Int.reduceSub, Nat.reduceMul, Nat.reduceSub, Nat.reducePow, Nat.reduceLeDiff, Int.reduceToNat, DD, x_app, x_ga0, x_gas, x_gan, Int.cast_ofNat_Int, eq_self, Int.zero_lt_one, Bool.not_false, Bool.not_true, beq_self_eq_true, w1, w2, xz, x0]
              refine callK_of false nat_Add.call (a1) rfl rfl (by simp [ownOK, hd, fzH, fzArgs, fz]) (by simp [U32, isD_u32, isD_v, isD_nil]) ?_
              simp only [go_sem, Nat.reduceAdd, Nat.reduceEqDiff, Nat.reduceLT, reduceIte, reduceCtorEq, Int.reduceLE, Int.reduceLT, Int.reduceEq, Int.reduceAdd, Int.reduceMul, Int.reduceSub, Nat.reduceMul, Nat.reduceSub, Nat.reducePow, Nat.reduceLeDiff, Int.reduceToNat, DD, x_app, x_ga0, x_gas, x_gan, Int.cast_ofNat_Int, eq_self, Int.zero_lt_one, Bool.not_false, Bool.not_true, beq_self_eq_true, w1, w2, xz, x0]
              refine callK_of false nat_Add.call (a2) rfl rfl (by simp [ownOK, hd, fzH, fzArgs, fz]) (by simp [U32, isD_u32, isD_v, isD_nil]) ?_
              simp only [go_sem, Nat.reduceAdd, Nat.reduceEqDiff, Nat.reduceLT, reduceIte, reduceCtorEq, Int.reduceLE, Int.reduceLT, Int.reduceEq, Int.reduceAdd, Int.reduceMul, Int.reduceSub, Nat.reduceMul, Nat.reduceSub, Nat.reducePow, Nat.reduceLeDiff, Int.reduceToNat, DD, x_app, x_ga0, x_gas, x_gan, Int.cast_ofNat_Int, eq_self, Int.zero_lt_one, Bool.not_false, Bool.not_true, beq_self_eq_true, w1, w2, xz, x0]
              refine callK_of false nat_Cmp.call (s4) rfl rfl (by simp [ownOK, hd, fzH, fzArgs, fz]) (by simp [U32, isD_u32, isD_v, isD_nil]) ?_
              simp only [go_sem, Nat.reduceAdd, Nat.reduceEqDiff, Nat.reduceLT, reduceIte, reduceCtorEq, Int.reduceLE, Int.reduceLT, Int.reduceEq, Int.reduceAdd, Int.reduceMul, Int.reduceSub, Nat.reduceMul, Nat.reduceSub, Nat.reducePow, Nat.reduceLeDiff, Int.reduceToNat, DD, x_app, x_ga0, x_gas, x_gan, Int.cast_ofNat_Int, eq_self, Int.zero_lt_one, Bool.not_false, Bool.not_true, beq_self_eq_true, w1, w2, xz, x0]
              refine callK_of false nat_Shl.call (h1) rfl rfl (by simp [ownOK, hd, fzH, fzArgs, fz]) (by simp [U32, isD_u32, isD_v, isD_nil]) ?_
              simp only [go_sem, Nat.reduceAdd, Nat.reduceEqDiff, Nat.reduceLT, reduceIte, reduceCtorEq, Int.reduceLE, Int.reduceLT, Int.reduceEq, Int.reduceAdd, Int.reduceMul, Int.reduceSub, Nat.reduceMul, Nat.reduceSub, Nat.reducePow, Nat.reduceLeDiff, Int.reduceToNat, DD, x_app, x_ga0, x_gas, x_gan, Int.cast_ofNat_Int, eq_self, Int.zero_lt_one, Bool.not_false, Bool.not_true, beq_self_eq_true, w1, w2, xz, x0]
              refine callK_of false nat_Shl.call (h2) rfl rfl (by simp [ownOK, hd, fzH, fzArgs, fz]) (by simp [U32, isD_u32, isD_v, isD_nil]) ?_
              simp only [go_sem, Nat.reduceAdd, Nat.reduceEqDiff, Nat.reduceLT, reduceIte, reduceCtorEq, Int.reduceLE, Int.reduceLT, Int.reduceEq, Int.reduceAdd, Int.reduceMul, Int.reduceSub, Nat.reduceMul, Nat.reduceSub, Nat.reducePow, Nat.reduceLeDiff, Int.reduceToNat, DD, x_app, x_ga0, x_gas, x_gan, Int.cast_ofNat_Int, eq_self, Int.zero_lt_one, Bool.not_false, Bool.not_true, beq_self_eq_true, w1, w2, xz, x0]
              refine callK_of false nat_Cmp.call (s5) rfl rfl (by simp [ownOK, hd, fzH, fzArgs, fz]) (by simp [U32, isD_u32, isD_v, isD_nil]) ?_
              simp only [go_sem, Nat.reduceAdd, Nat.reduceEqDiff, Nat.reduceLT, reduceIte, reduceCtorEq, Int.reduceLE, Int.reduceLT, Int.reduceEq, Int.reduceAdd, Int.reduceMul, Int.reduceSub, Nat.reduceMul, Nat.reduceSub, Nat.reducePow, Nat.reduceLeDiff, Int.reduceToNat, DD, x_app, x_ga0, x_gas, x_gan, Int.cast_ofNat_Int, eq_self, Int.zero_lt_one, Bool.not_false, Bool.not_true, beq_self_eq_true, w1, w2, xz, x0]
              refine callK_of false nat_Cmp.call (s6) rfl rfl (by simp [ownOK, hd, fzH, fzArgs, fz]) (by simp [U32, isD_u32, isD_v, isD_nil]) ?_
              simp only [go_sem, Nat.reduceAdd, Nat.reduceEqDiff, Nat.reduceLT, reduceIte, reduceCtorEq, Int.reduceLE, Int.reduceLT, Int.reduceEq, Int.reduceAdd, Int.reduceMul, Int.reduceSub, Nat.reduceMul, Nat.reduceSub, Nat.reducePow, Nat.reduceLeDiff, Int.reduceToNat, DD, x_app, x_ga0, x_gas, x_gan, Int.cast_ofNat_Int, eq_self, Int.zero_lt_one, Bool.not_false, Bool.not_true, beq_self_eq_true, w1, w2, xz, x0]
              refine callK_of false nat_Add.call (a3) rfl rfl (by simp [ownOK, hd, fzH, fzArgs, fz]) (by simp [U32, isD_u32, isD_v, isD_nil]) ?_
              simp only [go_sem, Nat.reduceAdd, Nat.reduceEqDiff, Nat.reduceLT, reduceIte, reduceCtorEq, Int.reduceLE, Int.reduceLT, Int.reduceEq, Int.reduceAdd, Int.reduceMul, Int.reduceSub, Nat.reduceMul, Nat.reduceSub, Nat.reducePow, Nat.reduceLeDiff, Int.reduceToNat, DD, x_app, x_ga0, x_gas, x_gan, Int.cast_ofNat_Int, eq_self, Int.zero_lt_one, Bool.not_false, Bool.not_true, beq_self_eq_true, w1, w2, xz, x0]
              refine callK_of false nat_Mul.call (m1) rfl rfl (by simp [ownOK, hd, fzH, fzArgs, fz]) (by simp [U32, isD_u32, isD_v, isD_nil]) ?_
              simp only [go_sem, Nat.reduceAdd, Nat.reduceEqDiff, Nat.reduceLT, reduceIte, reduceCtorEq, Int.reduceLE, Int.reduceLT, Int.reduceEq, Int.reduceAdd, Int.reduceMul, Int.reduceSub, Nat.reduceMul, Nat.reduceSub, Nat.reducePow, Nat.reduceLeDiff, Int.reduceToNat, DD, x_app, x_ga0, x_gas, x_gan, Int.cast_ofNat_Int, eq_self, Int.zero_lt_one, Bool.not_false, Bool.not_true, beq_self_eq_true, w1, w2, xz, x0]
              refine callK_of false nat_Add.call (a3) rfl rfl (by simp [ownOK, hd, fzH, fzArgs, fz]) (by simp [U32, isD_u32, isD_v, isD_nil]) ?_
              simp only [go_sem, Nat.reduceAdd, Nat.reduceEqDiff, Nat.reduceLT, reduceIte, reduceCtorEq, Int.reduceLE, Int.reduceLT, Int.reduceEq, Int.reduceAdd, Int.reduceMul, Int.reduceSub, Nat.reduceMul, Nat.reduceSub, Nat.reducePow, Nat.reduceLeDiff, Int.reduceToNat, DD, x_app, x_ga0, x_gas, x_gan, Int.cast_ofNat_Int, eq_self, Int.zero_lt_one, Bool.not_false, Bool.not_true, beq_self_eq_true, w1, w2, xz, x0]
              refine callK_of false nat_Mul.call (m2) rfl rfl (by simp [ownOK, hd, fzH, fzArgs, fz]) (by simp [U32, isD_u32, isD_v, isD_nil]) ?_
              simp only [go_sem, Nat.reduceAdd, Nat.reduceEqDiff, Nat.reduceLT, reduceIte, reduceCtorEq, Int.reduceLE, Int.reduceLT, Int.reduceEq, Int.reduceAdd, Int.reduceMul, Int.reduceSub, Nat.reduceMul, Nat.reduceSub, Nat.reducePow, Nat.reduceLeDiff, Int.reduceToNat, DD, x_app, x_ga0, x_gas, x_gan, Int.cast_ofNat_Int, eq_self, Int.zero_lt_one, Bool.not_false, Bool.not_true, beq_self_eq_true, w1, w2, xz, x0]
              refine callK_of false nat_Cmp.call (s7) rfl rfl (by simp [ownOK, hd, fzH, fzArgs, fz]) (by simp [U32, isD_u32, isD_v, isD_nil]) ?_
              simp only [go_sem, Nat.reduceAdd, Nat.reduceEqDiff, Nat.reduceLT, reduceIte, reduceCtorEq, Int.reduceLE, Int.reduceLT, Int.reduceEq, Int.reduceAdd, Int.reduceMul, Int.reduceSub, Nat.reduceMul, Nat.reduceSub, Nat.reducePow, Nat.reduceLeDiff, Int.reduceToNat, DD, x_app, x_ga0, x_gas, x_gan, Int.cast_ofNat_Int, eq_self, Int.zero_lt_one, Bool.not_false, Bool.not_true, beq_self_eq_true, w1, w2, xz, x0]
            · have x1 := hbl x0
              refine callK_of false nat_Cmp.call (s3) rfl rfl (by simp [ownOK, hd, fzH, fzArgs, fz]) (by simp [U32, isD_u32, isD_v, isD_nil]) ?_
              simp only [go_sem, Nat.reduceAdd, Nat.reduceEqDiff, Nat.reduceLT, reduceIte, reduceCtorEq, Int.reduceLE, Int.reduceLT, Int.reduceEq, Int.reduceAdd, Int.reduceMul, Int.reduceSub, Nat.reduceMul, Nat.reduceSub, Nat.reducePow, Nat.reduceLeDiff, Int.reduceToNat, DD, x_app, x_ga0, x_gas, x_gan, Int.cast_ofNat_Int, eq_self, Int.zero_lt_one, Bool.not_false, Bool.not_true, beq_self_eq_true, w1, w2, xz, x0, x1]
              refine callK_of false nat_Add.call (a1) rfl rfl (by simp [ownOK, hd, fzH, fzArgs, fz]) (by simp [U32, isD_u32, isD_v, isD_nil]) ?_
              simp only [go_sem, Nat.reduceAdd, Nat.reduceEqDiff, Nat.reduceLT, reduceIte, reduceCtorEq, Int.reduceLE, Int.reduceLT, Int.reduceEq, Int.reduceAdd, Int.reduceMul, Int.reduceSub, Nat.reduceMul, Nat.reduceSub, Nat.reducePow, Nat.reduceLeDiff, Int.reduceToNat, DD, x_app, x_ga0, x_gas, x_gan, Int.cast_ofNat_Int, eq_self, Int.zero_lt_one, Bool.not_false, Bool.not_true, beq_self_eq_true, w1, w2, xz, x0, x1]
              refine callK_of false nat_Add.call (a2) rfl rfl (by simp [ownOK, hd, fzH, fzArgs, fz]) (by simp [U32, isD_u32, isD_v, isD_nil]) ?_
              simp only [go_sem, Nat.reduceAdd, Nat.reduceEqDiff, Nat.reduceLT, reduceIte, reduceCtorEq, Int.reduceLE, Int.reduceLT, Int.reduceEq, Int.reduceAdd, Int.reduceMul, Int.reduceSub, Nat.reduceMul, Nat.reduceSub, Nat.reducePow, Nat.reduceLeDiff, Int.reduceToNat, DD, x_app, x_ga0, x_gas, x_gan, Int.cast_ofNat_Int, eq_self, Int.zero_lt_one, Bool.not_false, Bool.not_true, beq_self_eq_true, w1, w2, xz, x0, x1]
              refine callK_of false nat_Cmp.call (s4) rfl rfl (by simp [ownOK, hd, fzH, fzArgs, fz]) (by simp [U32, isD_u32, isD_v, isD_nil]) ?_
              simp only [go_sem, Nat.reduceAdd, Nat.reduceEqDiff, Nat.reduceLT, reduceIte, reduceCtorEq, Int.reduceLE, Int.reduceLT, Int.reduceEq, Int.reduceAdd, Int.reduceMul, Int.reduceSub, Nat.reduceMul, Nat.reduceSub, Nat.reducePow, Nat.reduceLeDiff, Int.reduceToNat, DD, x_app, x_ga0, x_gas, x_gan, Int.cast_ofNat_Int, eq_self, Int.zero_lt_one, Bool.not_false, Bool.not_true, beq_self_eq_true, w1, w2, xz, x0, x1]
              refine callK_of false nat_Shl.call (h1) rfl rfl (by simp [ownOK, hd, fzH, fzArgs, fz]) (by simp [U32, isD_u32, isD_v, isD_nil]) ?_
              simp only [go_sem, Nat.reduceAdd, Nat.reduceEqDiff, Nat.reduceLT, reduceIte, reduceCtorEq, Int.reduceLE, Int.reduceLT, Int.reduceEq, Int.reduceAdd, Int.reduceMul, Int.reduceSub, Nat.reduceMul, Nat.reduceSub, Nat.reducePow, Nat.reduceLeDiff, Int.reduceToNat, DD, x_app, x_ga0, x_gas, x_gan, Int.cast_ofNat_Int, eq_self, Int.zero_lt_one, Bool.not_false, Bool.not_true, beq_self_eq_true, w1, w2, xz, x0, x1]
              refine callK_of false nat_Shl.call (h2) rfl rfl (by simp [ownOK, hd, fzH, fzArgs, fz]) (by simp [U32, isD_u32, isD_v, isD_nil]) ?_
              simp only [go_sem, Nat.reduceAdd, Nat.reduceEqDiff, Nat.reduceLT, reduceIte, reduceCtorEq, Int.reduceLE, Int.reduceLT, Int.reduceEq, Int.reduceAdd, Int.reduceMul, Int.reduceSub, Nat.reduceMul, Nat.reduceSub, Nat.reducePow, Nat.reduceLeDiff, Int.reduceToNat, DD, x_app, x_ga0, x_gas, x_gan, Int.cast_ofNat_Int, eq_self, Int.zero_lt_one, Bool.not_false, Bool.not_true, beq_self_eq_true, w1, w2, xz, x0, x1]
              refine callK_of false nat_Cmp.call (s5) rfl rfl (by simp [ownOK, hd, fzH, fzArgs, fz]) (by simp [U32, isD_u32, isD_v, isD_nil]) ?_
              simp only [go_sem, Nat.reduceAdd, Nat.reduceEqDiff, Nat.reduceLT, reduceIte, reduceCtorEq, Int.reduceLE, Int.reduceLT, Int.reduceEq, Int.reduceAdd, Int.reduceMul, Int.reduceSub, Nat.reduceMul, Nat.reduceSub, Nat.reducePow, Nat.reduceLeDiff, Int.reduceToNat, DD, x_app, x_ga0, x_gas, x_gan, Int.cast_ofNat_Int, eq_self, Int.zero_lt_one, Bool.not_false, Bool.not_true, beq_self_eq_true, w1, w2, xz, x0, x1]
              refine callK_of false nat_Cmp.call (s6) rfl rfl (by simp [ownOK, hd, fzH, fzArgs, fz]) (by simp [U32, isD_u32, isD_v, isD_nil]) ?_
              simp only [go_sem, Nat.reduceAdd, Nat.reduceEqDiff, Nat.reduceLT, reduceIte, reduceCtorEq, Int.reduceLE, Int.reduceLT, Int.reduceEq, Int.reduceAdd, Int.reduceMul, Int.reduceSub, Nat.reduceMul, Nat.reduceSub, Nat.reducePow, Nat.reduceLeDiff, Int.reduceToNat, DD, x_app, x_ga0, x_gas, x_gan, Int.cast_ofNat_Int, eq_self, Int.zero_lt_one, Bool.not_false, Bool.not_true, beq_self_eq_true, w1, w2, xz, x0, x1]
              refine callK_of false nat_Bits.call (hb1) rfl rfl (by simp [ownOK, hd, fzH, fzArgs, fz]) (by simp [U32, isD_u32, isD_v, isD_nil]) ?_
              simp only [go_sem, Nat.reduceAdd, Nat.reduceEqDiff, Nat.reduceLT, reduceIte, reduceCtorEq, Int.reduceLE, Int.reduceLT, Int.reduceEq, Int.reduceAdd, Int.reduceMul, Int.reduceSub, Nat.reduceMul, Nat.reduceSub, Nat.reducePow, Nat.reduceLeDiff, Int.reduceToNat, DD, x_app, x_ga0, x_gas, x_gan, Int.cast_ofNat_Int, eq_self, Int.zero_lt_one, Bool.not_false, Bool.not_true, beq_self_eq_true, w1, w2, xz, x0, x1]
              refine callK_of false nat_Bits.call (hb2) rfl rfl (by simp [ownOK, hd, fzH, fzArgs, fz]) (by simp [U32, isD_u32, isD_v, isD_nil]) ?_
              simp only [go_sem, Nat.reduceAdd, Nat.reduceEqDiff, Nat.reduceLT, reduceIte, reduceCtorEq, Int.reduceLE, Int.reduceLT, Int.reduceEq, Int.reduceAdd, Int.reduceMul, Int.reduceSub, Nat.reduceMul, Nat.reduceSub, Nat.reducePow, Nat.reduceLeDiff, Int.reduceToNat, DD, x_app, x_ga0, x_gas, x_gan, Int.cast_ofNat_Int, eq_self, Int.zero_lt_one, Bool.not_false, Bool.not_true, beq_self_eq_true, w1, w2, xz, x0, x1]
              refine callK_of false nat_Add.call (a3) rfl rfl (by simp [ownOK, hd, fzH, fzArgs, fz]) (by simp [U32, isD_u32, isD_v, isD_nil]) ?_
              simp only [go_sem, Nat.reduceAdd, Nat.reduceEqDiff, Nat.reduceLT, reduceIte, reduceCtorEq, Int.reduceLE, Int.reduceLT, Int.reduceEq, Int.reduceAdd, Int.reduceMul, Int.reduceSub, Nat.reduceMul, Nat.reduceSub, Nat.reducePow, Nat.reduceLeDiff, Int.reduceToNat, DD, x_app, x_ga0, x_gas, x_gan, Int.cast_ofNat_Int, eq_self, Int.zero_lt_one, Bool.not_false, Bool.not_true, beq_self_eq_true, w1, w2, xz, x0, x1]
              refine callK_of false nat_Mul.call (m1) rfl rfl (by simp [ownOK, hd, fzH, fzArgs, fz]) (by simp [U32, isD_u32, isD_v, isD_nil]) ?_
              simp only [go_sem, Nat.reduceAdd, Nat.reduceEqDiff, Nat.reduceLT, reduceIte, reduceCtorEq, Int.reduceLE, Int.reduceLT, Int.reduceEq, Int.reduceAdd, Int.reduceMul, Int.reduceSub, Nat.reduceMul, Nat.reduceSub, Nat.reducePow, Nat.reduceLeDiff, Int.reduceToNat, DD, x_app, x_ga0, x_gas, x_gan, Int.cast_ofNat_Int, eq_self, Int.zero_lt_one, Bool.not_false, Bool.not_true, beq_self_eq_true, w1, w2, xz, x0, x1]
              refine callK_of false nat_Add.call (a3) rfl rfl (by simp [ownOK, hd, fzH, fzArgs, fz]) (by simp [U32, isD_u32, isD_v, isD_nil]) ?_
              simp only [go_sem, Nat.reduceAdd, Nat.reduceEqDiff, Nat.reduceLT, reduceIte, reduceCtorEq, Int.reduceLE, Int.reduceLT, Int.reduceEq, Int.reduceAdd, Int.reduceMul, Int.reduceSub, Nat.reduceMul, Nat.reduceSub, Nat.reducePow, Nat.reduceLeDiff, Int.reduceToNat, DD, x_app, x_ga0, x_gas, x_gan, Int.cast_ofNat_Int, eq_self, Int.zero_lt_one, Bool.not_false, Bool.not_true, beq_self_eq_true, w1, w2, xz, x0, x1]
              refine callK_of false nat_Mul.call (m2) rfl rfl (by simp [ownOK, hd, fzH, fzArgs, fz]) (by simp [U32, isD_u32, isD_v, isD_nil]) ?_
              simp only [go_sem, Nat.reduceAdd, Nat.reduceEqDiff, Nat.reduceLT, reduceIte, reduceCtorEq, Int.reduceLE, Int.reduceLT, Int.reduceEq, Int.reduceAdd, Int.reduceMul, Int.reduceSub, Nat.reduceMul, Nat.reduceSub, Nat.reducePow, Nat.reduceLeDiff, Int.reduceToNat, DD, x_app, x_ga0, x_gas, x_gan, Int.cast_ofNat_Int, eq_self, Int.zero_lt_one, Bool.not_false, Bool.not_true, beq_self_eq_true, w1, w2, xz, x0, x1]
              refine callK_of false nat_Cmp.call (s7) rfl rfl (by simp [ownOK, hd, fzH, fzArgs, fz]) (by simp [U32, isD_u32, isD_v, isD_nil]) ?_
              simp only [go_sem, Nat.reduceAdd, Nat.reduceEqDiff, Nat.reduceLT, reduceIte, reduceCtorEq, Int.reduceLE, Int.reduceLT, Int.reduceEq, Int.reduceAdd, Int.reduceMul, Int.reduceSub, Nat.reduceMul, Nat.reduceSub, Nat.reducePow, Nat.reduceLeDiff, Int.reduceToNat, DD, x_app, x_ga0, x_gas, x_gan, Int.cast_ofNat_Int, eq_self, Int.zero_lt_one, Bool.not_false, Bool.not_true, beq_self_eq_true, w1, w2, xz, x0, x1]
        · skip
          refine callK_of false nat_Cmp.call (s2) rfl rfl (by simp [ownOK, hd, fzH, fzArgs, fz]) (by simp [U32, isD_u32, isD_v, isD_nil]) ?_
          simp only [go_sem, Nat.reduceAdd, Nat.reduceEqDiff, Nat.reduceLT, reduceIte, reduceCtorEq, Int.reduceLE, Int.reduceLT, Int.reduceEq, Int.reduceAdd, Int.reduceMul, Int.reduceSub, Nat.reduceMul, Nat.reduceSub, Nat.reducePow, Nat.reduceLeDiff, Int.reduceToNat, DD, x_app, x_ga0, x_gas, x_gan, Int.cast_ofNat_Int, eq_self, Int.zero_lt_one, Bool.not_false, Bool.not_true, beq_self_eq_true, w1, xy]
          by_cases x0 : x ≤ 0
          · skip
            refine callK_of false nat_Cmp.call (s3) rfl rfl (by simp [ownOK, hd, fzH, fzArgs, fz]) (by simp [U32, isD_u32, isD_v, isD_nil]) ?_
            simp only [go_sem, Nat.reduceAdd, Nat.reduceEqDiff, Nat.reduceLT, reduceIte, reduceCtorEq, Int.reduceLE, Int.reduceLT, Int.reduceEq, Int.reduceAdd, Int.reduceMul, Int.reduceSub, Nat.reduceMul, Nat.reduceSub, Nat.reducePow, Nat.reduceLeDiff, Int.reduceToNat, DD, x_app, x_ga0, x_gas, x_gan, Int.cast_ofNat_Int, eq_self, Int.zero_lt_one, Bool.not_false, Bool.not_true, beq_self_eq_true, w1, w2, xy, x0]
            refine callK_of false nat_Add.call (a1) rfl rfl (by simp [ownOK, hd, fzH, fzArgs, fz]) (by simp [U32, isD_u32, isD_v, isD_nil]) ?_
            simp only [go_sem, Nat.reduceAdd, Nat.reduceEqDiff, Nat.reduceLT, reduceIte, reduceCtorEq, Int.reduceLE, Int.reduceLT, Int.reduceEq, Int.reduceAdd, Int.reduceMul, Int.reduceSub, Nat.reduceMul, Nat.reduceSub, Nat.reducePow, Nat.reduceLeDiff, Int.reduceToNat, DD, x_app, x_ga0, x_gas, x_gan, Int.cast_ofNat_Int, eq_self, Int.zero_lt_one, Bool.not_false, Bool.not_true, beq_self_eq_true, w1, w2, xy, x0]
            refine callK_of false nat_Add.call (a2) rfl rfl (by simp [ownOK, hd, fzH, fzArgs, fz]) (by simp [U32, isD_u32, isD_v, isD_nil]) ?_
            simp only [go_sem, Nat.reduceAdd, Nat.reduceEqDiff, Nat.reduceLT, reduceIte, reduceCtorEq, Int.reduceLE, Int.reduceLT, Int.reduceEq, Int.reduceAdd, Int.reduceMul, Int.reduceSub, Nat.reduceMul, Nat.reduceSub, Nat.reducePow, Nat.reduceLeDiff, Int.reduceToNat, DD, x_app, x_ga0, x_gas, x_gan, Int.cast_ofNat_Int, eq_self, Int.zero_lt_one, Bool.not_false, Bool.not_true, beq_self_eq_true, w1, w2, xy, x0]
            refine callK_of false nat_Cmp.call (s4) rfl rfl (by simp [ownOK, hd, fzH, fzArgs, fz]) (by simp [U32, isD_u32, isD_v, isD_nil]) ?_
            simp only [go_sem, Nat.reduceAdd, Nat.reduceEqDiff, Nat.reduceLT, reduceIte, reduceCtorEq, Int.reduceLE, Int.reduceLT, Int.reduceEq, Int.reduceAdd, Int.reduceMul, Int.reduceSub, Nat.reduceMul, Nat.reduceSub, Nat.reducePow, Nat.reduceLeDiff, Int.reduceToNat, DD, x_app, x_ga0, x_gas, x_gan, Int.cast_ofNat_Int, eq_self, Int.zero_lt_one, Bool.not_false, Bool.not_true, beq_self_eq_true, w1, w2, xy, x0]
            refine callK_of false nat_Shl.call (h1) rfl rfl (by simp [ownOK, hd, fzH, fzArgs, fz]) (by simp [U32, isD_u32, isD_v, isD_nil]) ?_
            simp only [go_sem, Nat.reduceAdd, Nat.reduceEqDiff, Nat.reduceLT, reduceIte, reduceCtorEq, Int.reduceLE, Int.reduceLT, Int.reduceEq, Int.reduceAdd, Int.reduceMul, Int.reduceSub, Nat.reduceMul, Nat.reduceSub, Nat.reducePow, Nat.reduceLeDiff, Int.reduceToNat, DD, x_app, x_ga0, x_gas, x_gan, Int.cast_ofNat_Int, eq_self, Int.zero_lt_one, Bool.not_false, Bool.not_true, beq_self_eq_true, w1, w2, xy, x0]
            refine callK_of false nat_Shl.call (h2) rfl rfl (by simp [ownOK, hd, fzH, fzArgs, fz]) (by simp [U32, isD_u32, isD_v, isD_nil]) ?_
            simp only [go_sem, Nat.reduceAdd, Nat.reduceEqDiff, Nat.reduceLT, reduceIte, reduceCtorEq, Int.reduceLE, Int.reduceLT, Int.reduceEq, Int.reduceAdd, Int.reduceMul, Int.reduceSub, Nat.reduceMul, Nat.reduceSub, Nat.reducePow, Nat.reduceLeDiff, Int.reduceToNat, DD, x_app, x_ga0, x_gas, x_gan, Int.cast_ofNat_Int, eq_self, Int.zero_lt_one, Bool.not_false, Bool.not_true, beq_self_eq_true, w1, w2, xy, x0]
            refine callK_of false nat_Cmp.call (s5) rfl rfl (by simp [ownOK, hd, fzH, fzArgs, fz]) (by simp [U32, isD_u32, isD_v, isD_nil]) ?_
            simp only [go_sem, Nat.reduceAdd, Nat.reduceEqDiff, Nat.reduceLT, reduceIte, reduceCtorEq, Int.reduceLE, Int.reduceLT, Int.reduceEq, Int.reduceAdd, Int.reduceMul, Int.reduceSub, Nat.reduceMul, Nat.reduceSub, Nat.reducePow, Nat.reduceLeDiff, Int.reduceToNat, DD, x_app, x_ga0, x_gas, x_gan, Int.cast_ofNat_Int, eq_self, Int.zero_lt_one, Bool.not_false, Bool.not_true, beq_self_eq_true, w1, w2, xy, x0]
            refine callK_of false nat_Cmp.call (s6) rfl rfl (by simp [ownOK, hd, fzH, fzArgs, fz]) (by simp [U32, isD_u32, isD_v, isD_nil]) ?_
            simp only [go_sem, Nat.reduceAdd, Nat.reduceEqDiff, Nat.reduceLT, reduceIte, reduceCtorEq, Int.reduceLE, Int.reduceLT, Int.reduceEq, Int.reduceAdd, Int.reduceMul, Int.reduceSub, Nat.reduceMul, Nat.reduceSub, Nat.reducePow, Nat.reduceLeDiff, Int.reduceToNat, DD, x_app, x_ga0, x_gas, x_gan, Int.cast_ofNat_Int, eq_self, Int.zero_lt_one, Bool.not_false, Bool.not_true, beq_self_eq_true, w1, w2, xy, x0]
            refine callK_of false nat_Add.call (a3) rfl rfl (by simp [ownOK, hd, fzH, fzArgs, fz]) (by simp [U32, isD_u32, isD_v, isD_nil]) ?_
            simp only [go_sem, Nat.reduceAdd, Nat.reduceEqDiff, Nat.reduceLT, reduceIte, reduceCtorEq, Int.reduceLE, Int.reduceLT, Int.reduceEq, Int.reduceAdd, Int.reduceMul, Int.reduceSub, Nat.reduceMul, Nat.reduceSub, Nat.reducePow, Nat.reduceLeDiff, Int.reduceToNat, DD, x_app, x_ga0, x_gas, x_gan, Int.cast_ofNat_Int, eq_self, Int.zero_lt_one, Bool.not_false, Bool.not_true, beq_self_eq_true, w1, w2, xy, x0]
            refine callK_of false nat_Mul.call (m1) rfl rfl (by simp [ownOK, hd, fzH, fzArgs, fz]) (by simp [U32, isD_u32, isD_v, isD_nil]) ?_
            simp only [go_sem, Nat.reduceAdd, Nat.reduceEqDiff, Nat.reduceLT, reduceIte, reduceCtorEq, Int.reduceLE, Int.reduceLT, Int.reduceEq, Int.reduceAdd, Int.reduceMul, Int.reduceSub, Nat.reduceMul, Nat.reduceSub, Nat.reducePow, Nat.reduceLeDiff, Int.reduceToNat, DD, x_app, x_ga0, x_gas, x_gan, Int.cast_ofNat_Int, eq_self, Int.zero_lt_one, Bool.not_false, Bool.not_true, beq_self_eq_true, w1, w2, xy, x0]
            refine callK_of false nat_Add.call (a3) rfl rfl (by simp [ownOK, hd, fzH, fzArgs, fz]) (by simp [U32, isD_u32, isD_v, isD_nil]) ?_
            simp only [go_sem, Nat.reduceAdd, Nat.reduceEqDiff, Nat.reduceLT, reduceIte, reduceCtorEq, Int.reduceLE, Int.reduceLT, Int.reduceEq, Int.reduceAdd, Int.reduceMul, Int.reduceSub, Nat.reduceMul, Nat.reduceSub, Nat.reducePow, Nat.reduceLeDiff, Int.reduceToNat, DD, x_app, x_ga0, x_gas, x_gan, Int.cast_ofNat_Int, eq_self, Int.zero_lt_one, Bool.not_false, Bool.not_true, beq_self_eq_true, w1, w2, xy, x0]
            refine callK_of false nat_Mul.call (m2) rfl rfl (by simp [ownOK, hd, fzH, fzArgs, fz]) (by simp [U32, isD_u32, isD_v, isD_nil]) ?_
            simp only [go_sem, Nat.reduceAdd, Nat.reduceEqDiff, Nat.reduceLT, reduceIte, reduceCtorEq, Int.reduceLE, Int.reduceLT, Int.reduceEq, Int.reduceAdd, Int.reduceMul, Int.reduceSub, Nat.reduceMul, Nat.reduceSub, Nat.reducePow, Nat.reduceLeDiff, Int.reduceToNat, DD, x_app, x_ga0, x_gas, x_gan, Int.cast_ofNat_Int, eq_self, Int.zero_lt_one, Bool.not_false, Bool.not_true, beq_self_eq_true, w1, w2, xy, x0]
            refine callK_of false nat_Cmp.call (s7) rfl rfl (by simp [ownOK, hd, fzH, fzArgs, fz]) (by simp [U32, isD_u32, isD_v, isD_nil]) ?_
            simp only [go_sem, Nat.reduceAdd, Nat.reduceEqDiff, Nat.reduceLT, reduceIte, reduceCtorEq, Int.reduceLE, Int.reduceLT, Int.reduceEq, Int.reduceAdd, Int.reduceMul, Int.reduceSub, Nat.reduceMul, Nat.reduceSub, Nat.reducePow, Nat.reduceLeDiff, Int.reduceToNat, DD, x_app, x_ga0, x_gas, x_gan, Int.cast_ofNat_Int, eq_self, Int.zero_lt_one, Bool.not_false, Bool.not_true, beq_self_eq_true, w1, w2, xy, x0]
          · have x1 := hbl x0
            refine callK_of false nat_Cmp.call (s3) rfl rfl (by simp [ownOK, hd, fzH, fzArgs, fz]) (by simp [U32, isD_u32, isD_v, isD_nil]) ?_
            simp only [go_sem, Nat.reduceAdd, Nat.reduceEqDiff, Nat.reduceLT, reduceIte, reduceCtorEq, Int.reduceLE, Int.reduceLT, Int.reduceEq, Int.reduceAdd, Int.reduceMul, Int.reduceSub, Nat.reduceMul, Nat.reduceSub, Nat.reducePow, Nat.reduceLeDiff, Int.reduceToNat, DD, x_app, x_ga0, x_gas, x_gan, Int.cast_ofNat_Int, eq_self, Int.zero_lt_one, Bool.not_false, Bool.not_true, beq_self_eq_true, w1, w2, xy, x0, x1]
            refine callK_of false nat_Add.call (a1) rfl rfl (by simp [ownOK, hd, fzH, fzArgs, fz]) (by simp [U32, isD_u32, isD_v, isD_nil]) ?_
            simp only [go_sem, Nat.reduceAdd, Nat.reduceEqDiff, Nat.reduceLT, reduceIte, reduceCtorEq, Int.reduceLE, Int.reduceLT, Int.reduceEq, Int.reduceAdd, Int.reduceMul, Int.reduceSub, Nat.reduceMul, Nat.reduceSub, Nat.reducePow, Nat.reduceLeDiff, Int.reduceToNat, DD, x_app, x_ga0, x_gas, x_gan, Int.cast_ofNat_Int, eq_self, Int.zero_lt_one, Bool.not_false, Bool.not_true, beq_self_eq_true, w1, w2, xy, x0, x1]
            refine callK_of false nat_Add.call (a2) rfl rfl (by simp [ownOK, hd, fzH, fzArgs, fz]) (by simp [U32, isD_u32, isD_v, isD_nil]) ?_
            simp only [go_sem, Nat.reduceAdd, Nat.reduceEqDiff, Nat.reduceLT, reduceIte, reduceCtorEq, Int.reduceLE, Int.reduceLT, Int.reduceEq, Int.reduceAdd, Int.reduceMul, Int.reduceSub, Nat.reduceMul, Nat.reduceSub, Nat.reducePow, Nat.reduceLeDiff, Int.reduceToNat, DD, x_app, x_ga0, x_gas, x_gan, Int.cast_ofNat_Int, eq_self, Int.zero_lt_one, Bool.not_false, Bool.not_true, beq_self_eq_true, w1, w2, xy, x0, x1]
            refine callK_of false nat_Cmp.call (s4) rfl rfl (by simp [ownOK, hd, fzH, fzArgs, fz]) (by simp [U32, isD_u32, isD_v, isD_nil]) ?_
            simp only [go_sem, Nat.reduceAdd, Nat.reduceEqDiff, Nat.reduceLT, reduceIte, reduceCtorEq, Int.reduceLE, Int.reduceLT, Int.reduceEq, Int.reduceAdd, Int.reduceMul, Int.reduceSub, Nat.reduceMul, Nat.reduceSub, Nat.reducePow, Nat.reduceLeDiff, Int.reduceToNat, DD, x_app, x_ga0, x_gas, x_gan, Int.cast_ofNat_Int, eq_self, Int.zero_lt_one, Bool.not_false, Bool.not_true, beq_self_eq_true, w1, w2, xy, x0, x1]
            refine callK_of false nat_Shl.call (h1) rfl rfl (by simp [ownOK, hd, fzH, fzArgs, fz]) (by simp [U32, isD_u32, isD_v, isD_nil]) ?_
            simp only [go_sem, Nat.reduceAdd, Nat.reduceEqDiff, Nat.reduceLT, reduceIte, reduceCtorEq, Int.reduceLE, Int.reduceLT, Int.reduceEq, Int.reduceAdd, Int.reduceMul, Int.reduceSub, Nat.reduceMul, Nat.reduceSub, Nat.reducePow, Nat.reduceLeDiff, Int.reduceToNat, DD, x_app, x_ga0, x_gas, x_gan, Int.cast_ofNat_Int, eq_self, Int.zero_lt_one, Bool.not_false, Bool.not_true, beq_self_eq_true, w1, w2, xy, x0, x1]
            refine callK_of false nat_Shl.call (h2) rfl rfl (by simp [ownOK, hd, fzH, fzArgs, fz]) (by simp [U32, isD_u32, isD_v, isD_nil]) ?_
            simp only [go_sem, Nat.reduceAdd, Nat.reduceEqDiff, Nat.reduceLT, reduceIte, reduceCtorEq, Int.reduceLE, Int.reduceLT, Int.reduceEq, Int.reduceAdd, Int.reduceMul, Int.reduceSub, Nat.reduceMul, Nat.reduceSub, Nat.reducePow, Nat.reduceLeDiff, Int.reduceToNat, DD, x_app, x_ga0, x_gas, x_gan, Int.cast_ofNat_Int, eq_self, Int.zero_lt_one, Bool.not_false, Bool.not_true, beq_self_eq_true, w1, w2, xy, x0, x1]
            refine callK_of false nat_Cmp.call (s5) rfl rfl (by simp [ownOK, hd, fzH, fzArgs, fz]) (by simp [U32, isD_u32, isD_v, isD_nil]) ?_
            simp only [go_sem, Nat.reduceAdd, Nat.reduceEqDiff, Nat.reduceLT, reduceIte, reduceCtorEq, Int.reduceLE, Int.reduceLT, Int.reduceEq, Int.reduceAdd, Int.reduceMul, Int.reduceSub, Nat.reduceMul, Nat.reduceSub, Nat.reducePow, Nat.reduceLeDiff, Int.reduceToNat, DD, x_app, x_ga0, x_gas, x_gan, Int.cast_ofNat_Int, eq_self, Int.zero_lt_one, Bool.not_false, Bool.not_true, beq_self_eq_true, w1, w2, xy, x0, x1]
            refine callK_of false nat_Cmp.call (s6) rfl rfl (by simp [ownOK, hd, fzH, fzArgs, fz]) (by simp [U32, isD_u32, isD_v, isD_nil]) ?_
            simp only [go_sem, Nat.reduceAdd, Nat.reduceEqDiff, Nat.reduceLT, reduceIte, reduceCtorEq, Int.reduceLE, Int.reduceLT, Int.reduceEq, Int.reduceAdd, Int.reduceMul, Int.reduceSub, Nat.reduceMul, Nat.reduceSub, Nat.reducePow, Nat.reduceLeDiff, Int.reduceToNat, DD, x_app, x_ga0, x_gas, x_gan, Int.cast_ofNat_Int, eq_self, Int.zero_lt_one, Bool.not_false, Bool.not_true, beq_self_eq_true, w1, w2, xy, x0, x1]
            refine callK_of false nat_Bits.call (hb1) rfl rfl (by simp [ownOK, hd, fzH, fzArgs, fz]) (by simp [U32, isD_u32, isD_v, isD_nil]) ?_
            simp only [go_sem, Nat.reduceAdd, Nat.reduceEqDiff, Nat.reduceLT, reduceIte, reduceCtorEq, Int.reduceLE, Int.reduceLT, Int.reduceEq, Int.reduceAdd, Int.reduceMul, Int.reduceSub, Nat.reduceMul, Nat.reduceSub, Nat.reducePow, Nat.reduceLeDiff, Int.reduceToNat, DD, x_app, x_ga0, x_gas, x_gan, Int.cast_ofNat_Int, eq_self, Int.zero_lt_one, Bool.not_false, Bool.not_true, beq_self_eq_true, w1, w2, xy, x0, x1]
            refine callK_of false nat_Bits.call (hb2) rfl rfl (by simp [ownOK, hd, fzH, fzArgs, fz]) (by simp [U32, isD_u32, isD_v, isD_nil]) ?_
            simp only [go_sem, Nat.reduceAdd, Nat.reduceEqDiff, Nat.reduceLT, reduceIte, reduceCtorEq, Int.reduceLE, Int.reduceLT, Int.reduceEq, Int.reduceAdd, Int.reduceMul, Int.reduceSub, Nat.reduceMul, Nat.reduceSub, Nat.reducePow, Nat.reduceLeDiff, Int.reduceToNat, DD, x_app, x_ga0, x_gas, x_gan, Int.cast_ofNat_Int, eq_self, Int.zero_lt_one, Bool.not_false, Bool.not_true, beq_self_eq_true, w1, w2, xy, x0, x1]
            refine callK_of false nat_Add.call (a3) rfl rfl (by simp [ownOK, hd, fzH, fzArgs, fz]) (by simp [U32, isD_u32, isD_v, isD_nil]) ?_
            simp only [go_sem, Nat.reduceAdd, Nat.reduceEqDiff, Nat.reduceLT, reduceIte, reduceCtorEq, Int.reduceLE, Int.reduceLT, Int.reduceEq, Int.reduceAdd, Int.reduceMul, Int.reduceSub, Nat.reduceMul, Nat.reduceSub, Nat.reducePow, Nat.reduceLeDiff, Int.reduceToNat, DD, x_app, x_ga0, x_gas, x_gan, Int.cast_ofNat_Int, eq_self, Int.zero_lt_one, Bool.not_false, Bool.not_true, beq_self_eq_true, w1, w2, xy, x0, x1]
            refine callK_of false nat_Mul.call (m1) rfl rfl (by simp [ownOK, hd, fzH, fzArgs, fz]) (by simp [U32, isD_u32, isD_v, isD_nil]) ?_
            simp only [go_sem, Nat.reduceAdd, Nat.reduceEqDiff, Nat.reduceLT, reduceIte, reduceCtorEq, Int.reduceLE, Int.reduceLT, Int.reduceEq, Int.reduceAdd, Int.reduceMul, Int.reduceSub, Nat.reduceMul, Nat.reduceSub, Nat.reducePow, Nat.reduceLeDiff, Int.reduceToNat, DD, x_app, x_ga0, x_gas, x_gan, Int.cast_ofNat_Int, eq_self, Int.zero_lt_one, Bool.not_false, Bool.not_true, beq_self_eq_true, w1, w2, xy, x0, x1]
            refine callK_of false nat_Add.call (a3) rfl rfl (by simp [ownOK, hd, fzH, fzArgs, fz]) (by simp [U32, isD_u32, isD_v, isD_nil]) ?_
            simp only [go_sem, Nat.reduceAdd, Nat.reduceEqDiff, Nat.reduceLT, reduceIte, reduceCtorEq, Int.reduceLE, Int.reduceLT, Int.reduceEq, Int.reduceAdd, Int.reduceMul, Int.reduceSub, Nat.reduceMul, Nat.reduceSub, Nat.reducePow, Nat.reduceLeDiff, Int.reduceToNat, DD, x_app, x_ga0, x_gas, x_gan, Int.cast_ofNat_Int, eq_self, Int.zero_lt_one, Bool.not_false, Bool.not_true, beq_self_eq_true, w1, w2, xy, x0, x1]
            refine callK_of false nat_Mul.call (m2) rfl rfl (by simp [ownOK, hd, fzH, fzArgs, fz]) (by simp [U32, isD_u32, isD_v, isD_nil]) ?_
            simp only [go_sem, Nat.reduceAdd, Nat.reduceEqDiff, Nat.reduceLT, reduceIte, reduceCtorEq, Int.reduceLE, Int.reduceLT, Int.reduceEq, Int.reduceAdd, Int.reduceMul, Int.reduceSub, Nat.reduceMul, Nat.reduceSub, Nat.reducePow, Nat.reduceLeDiff, Int.reduceToNat, DD, x_app, x_ga0, x_gas, x_gan, Int.cast_ofNat_Int, eq_self, Int.zero_lt_one, Bool.not_false, Bool.not_true, beq_self_eq_true, w1, w2, xy, x0, x1]
            refine callK_of false nat_Cmp.call (s7) rfl rfl (by simp [ownOK, hd, fzH, fzArgs, fz]) (by simp [U32, isD_u32, isD_v, isD_nil]) ?_
            simp only [go_sem, Nat.reduceAdd, Nat.reduceEqDiff, Nat.reduceLT, reduceIte, reduceCtorEq, Int.reduceLE, Int.reduceLT, Int.reduceEq, Int.reduceAdd, Int.reduceMul, Int.reduceSub, Nat.reduceMul, Nat.reduceSub, Nat.reducePow, Nat.reduceLeDiff, Int.reduceToNat, DD, x_app, x_ga0, x_gas, x_gan, Int.cast_ofNat_Int, eq_self, Int.zero_lt_one, Bool.not_false, Bool.not_true, beq_self_eq_true, w1, w2, xy, x0, x1]
      · skip
        refine callK_of false annuluslaw1_few.call (few_no c hfc) rfl rfl (by simp [ownOK, hd, fzH, fzArgs, fz]) (by simp [U32, isD_u32, isD_v, isD_nil]) ?_
        simp only [go_sem, Nat.reduceAdd, Nat.reduceEqDiff, Nat.reduceLT, reduceIte, reduceCtorEq, Int.reduceLE, Int.reduceLT, Int.reduceEq, Int.reduceAdd, Int.reduceMul, Int.reduceSub, Nat.reduceMul, Nat.reduceSub, Nat.reducePow, Nat.reduceLeDiff, Int.reduceToNat, DD, x_app, x_ga0, x_gas, x_gan, Int.cast_ofNat_Int, eq_self, Int.zero_lt_one, Bool.not_false, Bool.not_true, beq_self_eq_true]
    · skip
      refine callK_of false annuluslaw1_few.call (few_no b hfb) rfl rfl (by simp [ownOK, hd, fzH, fzArgs, fz]) (by simp [U32, isD_u32, isD_v, isD_nil]) ?_
      simp only [go_sem, Nat.reduceAdd, Nat.reduceEqDiff, Nat.reduceLT, reduceIte, reduceCtorEq, Int.reduceLE, Int.reduceLT, Int.reduceEq, Int.reduceAdd, Int.reduceMul, Int.reduceSub, Nat.reduceMul, Nat.reduceSub, Nat.reducePow, Nat.reduceLeDiff, Int.reduceToNat, DD, x_app, x_ga0, x_gas, x_gan, Int.cast_ofNat_Int, eq_self, Int.zero_lt_one, Bool.not_false, Bool.not_true, beq_self_eq_true]
  · skip
    refine callK_of false annuluslaw1_few.call (few_no a hfa) rfl rfl (by simp [ownOK, hd, fzH, fzArgs, fz]) (by simp [U32, isD_u32, isD_v, isD_nil]) ?_
    simp only [go_sem, Nat.reduceAdd, Nat.reduceEqDiff, Nat.reduceLT, reduceIte, reduceCtorEq, Int.reduceLE, Int.reduceLT, Int.reduceEq, Int.reduceAdd, Int.reduceMul, Int.reduceSub, Nat.reduceMul, Nat.reduceSub, Nat.reducePow, Nat.reduceLeDiff, Int.reduceToNat, DD, x_app, x_ga0, x_gas, x_gan, Int.cast_ofNat_Int, eq_self, Int.zero_lt_one, Bool.not_false, Bool.not_true, beq_self_eq_true]
end Go.Ab

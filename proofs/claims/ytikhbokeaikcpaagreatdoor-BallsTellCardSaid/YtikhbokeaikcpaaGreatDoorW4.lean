/- Contracts of this seat's functions (of each call: what it answers), walked over the abstract machine, and the laws of numbers that they want. Conditions: those that each theorem states. -/
import Derived.Test.YtikhbokeaikcpaaGreatDoorW3
set_option linter.unusedVariables false
set_option maxRecDepth 20000
set_option linter.unusedSimpArgs false
namespace Go.Ab
open Go.Proofs

theorem tr_iv (n m : Bool) {l k : List Nat} : iv n l = iv m k * iv (!(n == m)) (lim (nv l / nv k)) + iv n (lim (nv l % nv k)) := by
  have e := Nat.div_add_mod (nv l) (nv k)
  rw [iv_lim, iv_lim]
  unfold iv
  generalize nv l / nv k = Q at *
  generalize nv l % nv k = R at *
  generalize nv k = y at *
  rw [← e]
  have e2 : ((y * Q : Nat) : Int) = (y : Int) * (Q : Int) := by simp
  cases n <;> cases m <;> simp [Int.mul_neg, Int.neg_mul] <;> omega
theorem rd_a {m : Bool} {l k : List Nat} (hk : nv k ≠ 0) : iv (!(m == m)) (lim (nv l / nv k)) = fq (iv m l) (iv m k) ∧ iv m (lim (nv l % nv k)) = fr (iv m l) (iv m k) := by
  refine fl_unique (tr_iv m m) ?_
  have := Nat.mod_lt (nv l) (show 0 < nv k by omega)
  rw [iv_lim]
  unfold iv
  cases m <;> simp <;> omega
theorem rd_b {n m : Bool} {l k : List Nat} (hk : nv k ≠ 0) (hR : nv l % nv k = 0) : iv (!(n == m)) (lim (nv l / nv k)) = fq (iv n l) (iv m k) ∧ iv m (lim (nv l % nv k)) = fr (iv n l) (iv m k) := by
  have e : iv m (lim (nv l % nv k)) = iv n (lim (nv l % nv k)) := by rw [hR, lim_zero]; unfold iv; cases m <;> cases n <;> simp [nv]
  rw [e]
  refine fl_unique (tr_iv n m) ?_
  rw [hR, iv_lim]
  unfold iv
  cases n <;> cases m <;> simp <;> omega
theorem rd_c {n m : Bool} {l k : List Nat} (hn : ¬ n = m) (hk : nv k ≠ 0) (hR : nv l % nv k ≠ 0) : iv (!(n == m)) (lim (nv l / nv k + 1)) = fq (iv n l) (iv m k) ∧ iv m (lim (nv k - nv l % nv k)) = fr (iv n l) (iv m k) := by
  have h1 := tr_iv n m (l := l) (k := k)
  have h2 := Nat.mod_lt (nv l) (show 0 < nv k by omega)
  rw [iv_lim, iv_lim] at h1
  rw [iv_lim, iv_lim]
  refine fl_unique ?_ ?_
  · rw [h1, cell_ne hn]
    simp only [Bool.not_false, if_true]
    unfold iv
    cases n <;> cases m <;> simp at hn ⊢ <;> simp [Int.mul_add, Int.neg_mul, Int.mul_neg] <;> omega
  · unfold iv
    cases m <;> simp <;> omega
theorem rdivint_ok (n m : Bool) (l k : List Nat) (hl : Lm l) (hk : Lm k) (hla : l.length ≤ 1099511620) (hlk : k.length ≤ 1099511620) (h0 : nv k ≠ 0) : Sat CT false 189 [IA n l, IA m k] (.tup [WI (fq (iv n l) (iv m k)), WI (fr (iv n l) (iv m k)), Bo true]) := by
  refine sat_of annulusref1_DivInt.ok (by simp) ?_
  have DD := annulusref1_DivInt.dr
  simp only [drP, drPx, drPt, drR, drS, drT, bodyOf, Tryz.f189, Nat.reduceEqDiff, reduceIte, true_and, and_true] at DD
  obtain ⟨n', l', hW1, hl', hz1, hL1⟩ := WI_ex n l hl
  obtain ⟨m', k', hW2, hk', hz2, hL2⟩ := WI_ex m k hk
  have q1 := rnorm_sat n l hl (by omega)
  have q2 := rnorm_sat m k hk (by omega)
  rw [hW1] at q1
  rw [hW2] at q2
  have hkk : nv k' = nv k := by rw [← abs_iv m' k', hz2, abs_iv]
  rw [← hz1, ← hz2]
  clear hz1 hz2 hW1 hW2
  have hk0 : nv k' ≠ 0 := by omega
  have g1 := lim_nv_len (L := 1099511620) hl' (by omega) (Nat.div_le_self (nv l') (nv k'))
  have g2 := lim_nv_len (L := 1099511620) hl' (by omega) (Nat.mod_le (nv l') (nv k'))
  have g3 : (lim (nv l' / nv k' + 1)).length ≤ 1099511621 := lim_add_len g1 (Nat.le_trans (lim_length_le (k := 1) (by decide)) (by omega))
  have g4 := lim_nv_len (L := 1099511620) hk' (by omega) (Nat.sub_le (nv k') (nv l' % nv k'))
  have d1 := rdiv_sat l' k' hl' hk' (by omega) (by omega) hk0
  by_cases hn : n' = m'
  · subst hn
    have f := rd_a (m := n') (l := l') hk0
    rw [beq_self_eq_true, Bool.not_true] at f
    rw [← f.1, ← f.2]
    simp -implicitDefEqProofs only [go_sem, Nat.reduceAdd, Nat.reduceEqDiff, Nat.reduceLT, reduceIte, reduceCtorEq, Int.reduceLE, Int.reduceLT, Int.reduceEq, Int.reduceAdd, Int.reduceMul, Int.reduceSub, Nat.reduceMul, Nat.reduceSub, Nat.reducePow, Nat.reduceLeDiff, Int.reduceToNat, Tryz.f189, DD, beq_self_eq_true, Bool.not_false, Bool.not_true, WI, IA]
    refine callK_of false annulusref1_Norm.call (q1) rfl rfl (by simp [ownOK, own1, hd, fzH, fzArgs, fzCells, fz, IA, WI, U32]) (by simp [U32, isD_u32, isD_v, isD_nil, isD_agg, IA, WI]) ?_
    simp -implicitDefEqProofs only [go_sem, Nat.reduceAdd, Nat.reduceEqDiff, Nat.reduceLT, reduceIte, reduceCtorEq, Int.reduceLE, Int.reduceLT, Int.reduceEq, Int.reduceAdd, Int.reduceMul, Int.reduceSub, Nat.reduceMul, Nat.reduceSub, Nat.reducePow, Nat.reduceLeDiff, Int.reduceToNat, DD, x_app, x_ga0, x_gas, x_gan, Int.cast_ofNat_Int, eq_self, Int.zero_lt_one, Bool.not_false, Bool.not_true, beq_self_eq_true, WI, IA]
    refine callK_of false annulusref1_Norm.call (q2) rfl rfl (by simp [ownOK, own1, hd, fzH, fzArgs, fzCells, fz, IA, WI, U32]) (by simp [U32, isD_u32, isD_v, isD_nil, isD_agg, IA, WI]) ?_
    simp -implicitDefEqProofs only [go_sem, Nat.reduceAdd, Nat.reduceEqDiff, Nat.reduceLT, reduceIte, reduceCtorEq, Int.reduceLE, Int.reduceLT, Int.reduceEq, Int.reduceAdd, Int.reduceMul, Int.reduceSub, Nat.reduceMul, Nat.reduceSub, Nat.reducePow, Nat.reduceLeDiff, Int.reduceToNat, DD, x_app, x_ga0, x_gas, x_gan, Int.cast_ofNat_Int, eq_self, Int.zero_lt_one, Bool.not_false, Bool.not_true, beq_self_eq_true, WI, IA]
    refine callK_of false annulusref1_Div.call (d1) rfl rfl (by simp [ownOK, own1, hd, fzH, fzArgs, fzCells, fz, IA, WI, U32]) (by simp [U32, isD_u32, isD_v, isD_nil, isD_agg, IA, WI]) ?_
    simp -implicitDefEqProofs only [go_sem, Nat.reduceAdd, Nat.reduceEqDiff, Nat.reduceLT, reduceIte, reduceCtorEq, Int.reduceLE, Int.reduceLT, Int.reduceEq, Int.reduceAdd, Int.reduceMul, Int.reduceSub, Nat.reduceMul, Nat.reduceSub, Nat.reducePow, Nat.reduceLeDiff, Int.reduceToNat, DD, x_app, x_ga0, x_gas, x_gan, Int.cast_ofNat_Int, eq_self, Int.zero_lt_one, Bool.not_false, Bool.not_true, beq_self_eq_true, WI, IA]
    refine callK_of false annulusref1_Norm.call (rnorm_sat false (lim (nv l' / nv k')) (Lm_lim _) (by omega)) rfl rfl (by simp [ownOK, own1, hd, fzH, fzArgs, fzCells, fz, IA, WI, U32]) (by simp [U32, isD_u32, isD_v, isD_nil, isD_agg, IA, WI]) ?_
    simp -implicitDefEqProofs only [go_sem, Nat.reduceAdd, Nat.reduceEqDiff, Nat.reduceLT, reduceIte, reduceCtorEq, Int.reduceLE, Int.reduceLT, Int.reduceEq, Int.reduceAdd, Int.reduceMul, Int.reduceSub, Nat.reduceMul, Nat.reduceSub, Nat.reducePow, Nat.reduceLeDiff, Int.reduceToNat, DD, x_app, x_ga0, x_gas, x_gan, Int.cast_ofNat_Int, eq_self, Int.zero_lt_one, Bool.not_false, Bool.not_true, beq_self_eq_true, WI, IA]
    refine callK_of false annulusref1_Norm.call (rnorm_sat n' (lim (nv l' % nv k')) (Lm_lim _) (by omega)) rfl rfl (by simp [ownOK, own1, hd, fzH, fzArgs, fzCells, fz, IA, WI, U32]) (by simp [U32, isD_u32, isD_v, isD_nil, isD_agg, IA, WI]) ?_
    simp -implicitDefEqProofs only [go_sem, Nat.reduceAdd, Nat.reduceEqDiff, Nat.reduceLT, reduceIte, reduceCtorEq, Int.reduceLE, Int.reduceLT, Int.reduceEq, Int.reduceAdd, Int.reduceMul, Int.reduceSub, Nat.reduceMul, Nat.reduceSub, Nat.reducePow, Nat.reduceLeDiff, Int.reduceToNat, DD, x_app, x_ga0, x_gas, x_gan, Int.cast_ofNat_Int, eq_self, Int.zero_lt_one, Bool.not_false, Bool.not_true, beq_self_eq_true, WI, IA]
  · have c1 := cell_ne hn
    by_cases hR : nv l' % nv k' = 0
    · have f := rd_b (n := n') (m := m') hk0 hR
      rw [c1, Bool.not_false] at f
      rw [← f.1, ← f.2]
      have c2 : ¬ (0 : Int) < ((lim (nv l' % nv k')).length : Int) := by rw [hR, lim_zero]; simp
      simp -implicitDefEqProofs only [go_sem, Nat.reduceAdd, Nat.reduceEqDiff, Nat.reduceLT, reduceIte, reduceCtorEq, Int.reduceLE, Int.reduceLT, Int.reduceEq, Int.reduceAdd, Int.reduceMul, Int.reduceSub, Nat.reduceMul, Nat.reduceSub, Nat.reducePow, Nat.reduceLeDiff, Int.reduceToNat, Tryz.f189, DD, beq_self_eq_true, Bool.not_false, Bool.not_true, WI, IA, c1, c2]
      refine callK_of false annulusref1_Norm.call (q1) rfl rfl (by simp [ownOK, own1, hd, fzH, fzArgs, fzCells, fz, IA, WI, U32]) (by simp [U32, isD_u32, isD_v, isD_nil, isD_agg, IA, WI]) ?_
      simp -implicitDefEqProofs only [go_sem, Nat.reduceAdd, Nat.reduceEqDiff, Nat.reduceLT, reduceIte, reduceCtorEq, Int.reduceLE, Int.reduceLT, Int.reduceEq, Int.reduceAdd, Int.reduceMul, Int.reduceSub, Nat.reduceMul, Nat.reduceSub, Nat.reducePow, Nat.reduceLeDiff, Int.reduceToNat, DD, x_app, x_ga0, x_gas, x_gan, Int.cast_ofNat_Int, eq_self, Int.zero_lt_one, Bool.not_false, Bool.not_true, beq_self_eq_true, WI, IA, c1, c2]
      refine callK_of false annulusref1_Norm.call (q2) rfl rfl (by simp [ownOK, own1, hd, fzH, fzArgs, fzCells, fz, IA, WI, U32]) (by simp [U32, isD_u32, isD_v, isD_nil, isD_agg, IA, WI]) ?_
      simp -implicitDefEqProofs only [go_sem, Nat.reduceAdd, Nat.reduceEqDiff, Nat.reduceLT, reduceIte, reduceCtorEq, Int.reduceLE, Int.reduceLT, Int.reduceEq, Int.reduceAdd, Int.reduceMul, Int.reduceSub, Nat.reduceMul, Nat.reduceSub, Nat.reducePow, Nat.reduceLeDiff, Int.reduceToNat, DD, x_app, x_ga0, x_gas, x_gan, Int.cast_ofNat_Int, eq_self, Int.zero_lt_one, Bool.not_false, Bool.not_true, beq_self_eq_true, WI, IA, c1, c2]
      refine callK_of false annulusref1_Div.call (d1) rfl rfl (by simp [ownOK, own1, hd, fzH, fzArgs, fzCells, fz, IA, WI, U32]) (by simp [U32, isD_u32, isD_v, isD_nil, isD_agg, IA, WI]) ?_
      simp -implicitDefEqProofs only [go_sem, Nat.reduceAdd, Nat.reduceEqDiff, Nat.reduceLT, reduceIte, reduceCtorEq, Int.reduceLE, Int.reduceLT, Int.reduceEq, Int.reduceAdd, Int.reduceMul, Int.reduceSub, Nat.reduceMul, Nat.reduceSub, Nat.reducePow, Nat.reduceLeDiff, Int.reduceToNat, DD, x_app, x_ga0, x_gas, x_gan, Int.cast_ofNat_Int, eq_self, Int.zero_lt_one, Bool.not_false, Bool.not_true, beq_self_eq_true, WI, IA, c1, c2]
      refine callK_of false annulusref1_Norm.call (rnorm_sat true (lim (nv l' / nv k')) (Lm_lim _) (by omega)) rfl rfl (by simp [ownOK, own1, hd, fzH, fzArgs, fzCells, fz, IA, WI, U32]) (by simp [U32, isD_u32, isD_v, isD_nil, isD_agg, IA, WI]) ?_
      simp -implicitDefEqProofs only [go_sem, Nat.reduceAdd, Nat.reduceEqDiff, Nat.reduceLT, reduceIte, reduceCtorEq, Int.reduceLE, Int.reduceLT, Int.reduceEq, Int.reduceAdd, Int.reduceMul, Int.reduceSub, Nat.reduceMul, Nat.reduceSub, Nat.reducePow, Nat.reduceLeDiff, Int.reduceToNat, DD, x_app, x_ga0, x_gas, x_gan, Int.cast_ofNat_Int, eq_self, Int.zero_lt_one, Bool.not_false, Bool.not_true, beq_self_eq_true, WI, IA, c1, c2]
      refine callK_of false annulusref1_Norm.call (rnorm_sat m' (lim (nv l' % nv k')) (Lm_lim _) (by omega)) rfl rfl (by simp [ownOK, own1, hd, fzH, fzArgs, fzCells, fz, IA, WI, U32]) (by simp [U32, isD_u32, isD_v, isD_nil, isD_agg, IA, WI]) ?_
      simp -implicitDefEqProofs only [go_sem, Nat.reduceAdd, Nat.reduceEqDiff, Nat.reduceLT, reduceIte, reduceCtorEq, Int.reduceLE, Int.reduceLT, Int.reduceEq, Int.reduceAdd, Int.reduceMul, Int.reduceSub, Nat.reduceMul, Nat.reduceSub, Nat.reducePow, Nat.reduceLeDiff, Int.reduceToNat, DD, x_app, x_ga0, x_gas, x_gan, Int.cast_ofNat_Int, eq_self, Int.zero_lt_one, Bool.not_false, Bool.not_true, beq_self_eq_true, WI, IA, c1, c2]
    · have f := rd_c hn hk0 hR
      rw [c1, Bool.not_false] at f
      rw [← f.1, ← f.2]
      have c2 : (0 : Int) < ((lim (nv l' % nv k')).length : Int) := by
        have : (lim (nv l' % nv k')).length ≠ 0 := fun e => hR (by have := nv_nil_of e; rwa [nv_lim] at this)
        omega
      have a1 := radd_sat (lim (nv l' / nv k')) [1] (Lm_lim _) Lm1 (by omega) (by simp)
      rw [nv_lim, nv1] at a1
      have hlt := Nat.mod_lt (nv l') (show 0 < nv k' by omega)
      have s1 := rsub_ok k' (lim (nv l' % nv k')) hk' (Lm_lim _) (by omega) (by omega) (by rw [nv_lim]; omega)
      rw [nv_lim] at s1
      simp -implicitDefEqProofs only [go_sem, Nat.reduceAdd, Nat.reduceEqDiff, Nat.reduceLT, reduceIte, reduceCtorEq, Int.reduceLE, Int.reduceLT, Int.reduceEq, Int.reduceAdd, Int.reduceMul, Int.reduceSub, Nat.reduceMul, Nat.reduceSub, Nat.reducePow, Nat.reduceLeDiff, Int.reduceToNat, Tryz.f189, DD, beq_self_eq_true, Bool.not_false, Bool.not_true, WI, IA, c1, c2]
      refine callK_of false annulusref1_Norm.call (q1) rfl rfl (by simp [ownOK, own1, hd, fzH, fzArgs, fzCells, fz, IA, WI, U32]) (by simp [U32, isD_u32, isD_v, isD_nil, isD_agg, IA, WI]) ?_
      simp -implicitDefEqProofs only [go_sem, Nat.reduceAdd, Nat.reduceEqDiff, Nat.reduceLT, reduceIte, reduceCtorEq, Int.reduceLE, Int.reduceLT, Int.reduceEq, Int.reduceAdd, Int.reduceMul, Int.reduceSub, Nat.reduceMul, Nat.reduceSub, Nat.reducePow, Nat.reduceLeDiff, Int.reduceToNat, DD, x_app, x_ga0, x_gas, x_gan, Int.cast_ofNat_Int, eq_self, Int.zero_lt_one, Bool.not_false, Bool.not_true, beq_self_eq_true, WI, IA, c1, c2]
      refine callK_of false annulusref1_Norm.call (q2) rfl rfl (by simp [ownOK, own1, hd, fzH, fzArgs, fzCells, fz, IA, WI, U32]) (by simp [U32, isD_u32, isD_v, isD_nil, isD_agg, IA, WI]) ?_
      simp -implicitDefEqProofs only [go_sem, Nat.reduceAdd, Nat.reduceEqDiff, Nat.reduceLT, reduceIte, reduceCtorEq, Int.reduceLE, Int.reduceLT, Int.reduceEq, Int.reduceAdd, Int.reduceMul, Int.reduceSub, Nat.reduceMul, Nat.reduceSub, Nat.reducePow, Nat.reduceLeDiff, Int.reduceToNat, DD, x_app, x_ga0, x_gas, x_gan, Int.cast_ofNat_Int, eq_self, Int.zero_lt_one, Bool.not_false, Bool.not_true, beq_self_eq_true, WI, IA, c1, c2]
      refine callK_of false annulusref1_Div.call (d1) rfl rfl (by simp [ownOK, own1, hd, fzH, fzArgs, fzCells, fz, IA, WI, U32]) (by simp [U32, isD_u32, isD_v, isD_nil, isD_agg, IA, WI]) ?_
      simp -implicitDefEqProofs only [go_sem, Nat.reduceAdd, Nat.reduceEqDiff, Nat.reduceLT, reduceIte, reduceCtorEq, Int.reduceLE, Int.reduceLT, Int.reduceEq, Int.reduceAdd, Int.reduceMul, Int.reduceSub, Nat.reduceMul, Nat.reduceSub, Nat.reducePow, Nat.reduceLeDiff, Int.reduceToNat, DD, x_app, x_ga0, x_gas, x_gan, Int.cast_ofNat_Int, eq_self, Int.zero_lt_one, Bool.not_false, Bool.not_true, beq_self_eq_true, WI, IA, c1, c2]
      refine callK_of false annulusref1_Add.call (a1) rfl rfl (by simp [ownOK, own1, hd, fzH, fzArgs, fzCells, fz, IA, WI, U32]) (by simp [U32, isD_u32, isD_v, isD_nil, isD_agg, IA, WI]) ?_
      simp -implicitDefEqProofs only [go_sem, Nat.reduceAdd, Nat.reduceEqDiff, Nat.reduceLT, reduceIte, reduceCtorEq, Int.reduceLE, Int.reduceLT, Int.reduceEq, Int.reduceAdd, Int.reduceMul, Int.reduceSub, Nat.reduceMul, Nat.reduceSub, Nat.reducePow, Nat.reduceLeDiff, Int.reduceToNat, DD, x_app, x_ga0, x_gas, x_gan, Int.cast_ofNat_Int, eq_self, Int.zero_lt_one, Bool.not_false, Bool.not_true, beq_self_eq_true, WI, IA, c1, c2]
      refine callK_of false annulusref1_Sub.call (s1) rfl rfl (by simp [ownOK, own1, hd, fzH, fzArgs, fzCells, fz, IA, WI, U32]) (by simp [U32, isD_u32, isD_v, isD_nil, isD_agg, IA, WI]) ?_
      simp -implicitDefEqProofs only [go_sem, Nat.reduceAdd, Nat.reduceEqDiff, Nat.reduceLT, reduceIte, reduceCtorEq, Int.reduceLE, Int.reduceLT, Int.reduceEq, Int.reduceAdd, Int.reduceMul, Int.reduceSub, Nat.reduceMul, Nat.reduceSub, Nat.reducePow, Nat.reduceLeDiff, Int.reduceToNat, DD, x_app, x_ga0, x_gas, x_gan, Int.cast_ofNat_Int, eq_self, Int.zero_lt_one, Bool.not_false, Bool.not_true, beq_self_eq_true, WI, IA, c1, c2]
      refine callK_of false annulusref1_Norm.call (rnorm_sat true (lim (nv l' / nv k' + 1)) (Lm_lim _) (by omega)) rfl rfl (by simp [ownOK, own1, hd, fzH, fzArgs, fzCells, fz, IA, WI, U32]) (by simp [U32, isD_u32, isD_v, isD_nil, isD_agg, IA, WI]) ?_
      simp -implicitDefEqProofs only [go_sem, Nat.reduceAdd, Nat.reduceEqDiff, Nat.reduceLT, reduceIte, reduceCtorEq, Int.reduceLE, Int.reduceLT, Int.reduceEq, Int.reduceAdd, Int.reduceMul, Int.reduceSub, Nat.reduceMul, Nat.reduceSub, Nat.reducePow, Nat.reduceLeDiff, Int.reduceToNat, DD, x_app, x_ga0, x_gas, x_gan, Int.cast_ofNat_Int, eq_self, Int.zero_lt_one, Bool.not_false, Bool.not_true, beq_self_eq_true, WI, IA, c1, c2]
      refine callK_of false annulusref1_Norm.call (rnorm_sat m' (lim (nv k' - nv l' % nv k')) (Lm_lim _) (by omega)) rfl rfl (by simp [ownOK, own1, hd, fzH, fzArgs, fzCells, fz, IA, WI, U32]) (by simp [U32, isD_u32, isD_v, isD_nil, isD_agg, IA, WI]) ?_
      simp -implicitDefEqProofs only [go_sem, Nat.reduceAdd, Nat.reduceEqDiff, Nat.reduceLT, reduceIte, reduceCtorEq, Int.reduceLE, Int.reduceLT, Int.reduceEq, Int.reduceAdd, Int.reduceMul, Int.reduceSub, Nat.reduceMul, Nat.reduceSub, Nat.reducePow, Nat.reduceLeDiff, Int.reduceToNat, DD, x_app, x_ga0, x_gas, x_gan, Int.cast_ofNat_Int, eq_self, Int.zero_lt_one, Bool.not_false, Bool.not_true, beq_self_eq_true, WI, IA, c1, c2]
end Go.Ab

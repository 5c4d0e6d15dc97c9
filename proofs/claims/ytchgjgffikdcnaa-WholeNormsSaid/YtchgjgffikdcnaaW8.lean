/- Contracts of this seat's functions (of each call: what it answers), walked over the abstract machine, and the laws of numbers that they want. Conditions: those that each theorem states. -/
import Derived.Test.YtchgjgffikdcnaaW7
set_option linter.unusedVariables false
set_option maxRecDepth 20000
set_option linter.unusedSimpArgs false
namespace Go.Ab
open Go.Proofs

theorem pow_ne (c : Nat) : (2 : Int) ^ c ≠ 0 := by
  have : ((2 ^ c : Nat) : Int) = 2 ^ c := by simp
  rw [← this]
  have := Nat.two_pow_pos c
  omega
theorem Lz_pow (c : Nat) : Lz (2 ^ c) ≤ c / 32 + 1 := by
  have : ((2 : Int) ^ c).natAbs = 2 ^ c := by rw [Int.natAbs_pow]; rfl
  unfold Lz
  rw [this]
  exact lim_pow2 c
set_option maxRecDepth 100000 in
set_option maxHeartbeats 8000000 in
theorem wholeShifts_sat (n : Bool) (l : List Nat) (c v : Int) (hl : Lm l) (hv : -9223372036854775808 ≤ v ∧ v ≤ 9223372036854775807) : Sat CT false 3 [IA n l, I64 c, I64 v] (Bo true) := by
  refine sat_of annuluslaw2_WholeShifts.ok (by simp) ?_
  have DD := annuluslaw2_WholeShifts.dr
  simp only [drP, drPx, drR, drS, bodyOf, Try.f3, Nat.reduceEqDiff, reduceIte, true_and, and_true] at DD
  simp -implicitDefEqProofs only [go_sem, Nat.reduceAdd, Nat.reduceEqDiff, Nat.reduceLT, reduceIte, reduceCtorEq, Int.reduceLE, Int.reduceLT, Int.reduceEq, Int.reduceAdd, Int.reduceMul, Int.reduceSub, Nat.reduceMul, Nat.reduceSub, Nat.reducePow, Nat.reduceLeDiff, Int.reduceToNat, Try.f3, DD, beq_self_eq_true, Bool.not_false, Bool.not_true, WI, IA, NI]
  refine callK_of false annuluslaw2_known.call (wknown_sat) rfl rfl (by simp [ownOK, own1, hd, fzH, fzArgs, fzCells, fz, IA, WI, U32]) (by simp [U32, isD_u32, isD_v, isD_nil, isD_agg, IA, WI]) ?_
  simp -implicitDefEqProofs only [go_sem, Nat.reduceAdd, Nat.reduceEqDiff, Nat.reduceLT, reduceIte, reduceCtorEq, Int.reduceLE, Int.reduceLT, Int.reduceEq, Int.reduceAdd, Int.reduceMul, Int.reduceSub, Nat.reduceMul, Nat.reduceSub, Nat.reducePow, Nat.reduceLeDiff, Int.reduceToNat, DD, x_app, x_ga0, x_gas, x_gan, Int.cast_ofNat_Int, eq_self, Int.zero_lt_one, Bool.not_false, Bool.not_true, beq_self_eq_true, WI, IA, NI]
  by_cases hfl : l.length ≤ 24
  · skip
    refine callK_of false annuluslaw2_few.call (wfew_yes n l hfl) rfl rfl (by simp [ownOK, own1, hd, fzH, fzArgs, fzCells, fz, IA, WI, U32]) (by simp [U32, isD_u32, isD_v, isD_nil, isD_agg, IA, WI]) ?_
    simp -implicitDefEqProofs only [go_sem, Nat.reduceAdd, Nat.reduceEqDiff, Nat.reduceLT, reduceIte, reduceCtorEq, Int.reduceLE, Int.reduceLT, Int.reduceEq, Int.reduceAdd, Int.reduceMul, Int.reduceSub, Nat.reduceMul, Nat.reduceSub, Nat.reducePow, Nat.reduceLeDiff, Int.reduceToNat, DD, x_app, x_ga0, x_gas, x_gan, Int.cast_ofNat_Int, eq_self, Int.zero_lt_one, Bool.not_false, Bool.not_true, beq_self_eq_true, WI, IA, NI]
    have ha := RI_i (n := n) hl hfl
    have zl := Lz_iv (n := n) hl hfl
    have o1 := wof_sat v hv.1 hv.2
    have o2 := rof_sat v hv.1 hv.2
    have zv : Lz v ≤ 2 := lim_length_le (k := 2) (by omega)
    have w1 := small_y (RI_W (z := v) zv) (by omega) hv.1 hv.2
    have yv := same_w (x := v) rfl (by omega)
    have s1 := wshl_sat n l (min c 1500) hl (by omega)
    have s2 := rshlint_sat n l (min c 1500) hl (by omega)
    have gs : Lz (iv n l * 2 ^ shN (min c 1500)) ≤ 24 + (shN (min c 1500) / 32 + 1) := Lz_mul zl (Lz_pow _)
    have g0 := shN_le (min c 1500)
    have ys := same_w (x := iv n l * 2 ^ shN (min c 1500)) rfl (by omega)
    have h1 := wshr_sat n l c hl (by omega)
    have h2 := rshrint_sat n l c hl (by omega)
    have gq := Lz_fq (z := iv n l) (pow_ne (shN c)) zl
    have yq := same_w (x := fq (iv n l) (2 ^ shN c)) rfl (by omega)
    have hsm : ∃ (r : Int) (b : Bool), Sat CT false 12 [IA n l] (.tup [I64 r, Bo b]) ∧ Sat CT false 13 [IA n l] (.tup [I64 r, Bo b]) := by
      by_cases hx : -9223372036854775808 ≤ iv n l ∧ iv n l ≤ 9223372036854775807
      · exact ⟨_, _, wsmall_yes n l hl (by omega) hx, rsmall_yes n l hl (by omega) hx⟩
      · exact ⟨_, _, wsmall_no n l hl (by omega) hx, rsmall_no n l hl (by omega) hx⟩
    obtain ⟨r, b, m1, m2⟩ := hsm
    by_cases c1 : 1500 < c
    · have c2 : ¬ c ≤ 1500 := by omega
      by_cases c3 : c ≤ 100000
      · skip
        simp -implicitDefEqProofs only [go_sem, Nat.reduceAdd, Nat.reduceEqDiff, Nat.reduceLT, reduceIte, reduceCtorEq, Int.reduceLE, Int.reduceLT, Int.reduceEq, Int.reduceAdd, Int.reduceMul, Int.reduceSub, Nat.reduceMul, Nat.reduceSub, Nat.reducePow, Nat.reduceLeDiff, Int.reduceToNat, DD, x_app, x_ga0, x_gas, x_gan, Int.cast_ofNat_Int, eq_self, Int.zero_lt_one, Bool.not_false, Bool.not_true, beq_self_eq_true, WI, IA, NI, c1, c2, c3]
      · skip
        simp -implicitDefEqProofs only [go_sem, Nat.reduceAdd, Nat.reduceEqDiff, Nat.reduceLT, reduceIte, reduceCtorEq, Int.reduceLE, Int.reduceLT, Int.reduceEq, Int.reduceAdd, Int.reduceMul, Int.reduceSub, Nat.reduceMul, Nat.reduceSub, Nat.reducePow, Nat.reduceLeDiff, Int.reduceToNat, DD, x_app, x_ga0, x_gas, x_gan, Int.cast_ofNat_Int, eq_self, Int.zero_lt_one, Bool.not_false, Bool.not_true, beq_self_eq_true, WI, IA, NI, c1, c2, c3]
        refine callK_of false whole_Small.call (m1) rfl rfl (by simp [ownOK, own1, hd, fzH, fzArgs, fzCells, fz, IA, WI, U32]) (by simp [U32, isD_u32, isD_v, isD_nil, isD_agg, IA, WI]) ?_
        simp -implicitDefEqProofs only [go_sem, Nat.reduceAdd, Nat.reduceEqDiff, Nat.reduceLT, reduceIte, reduceCtorEq, Int.reduceLE, Int.reduceLT, Int.reduceEq, Int.reduceAdd, Int.reduceMul, Int.reduceSub, Nat.reduceMul, Nat.reduceSub, Nat.reducePow, Nat.reduceLeDiff, Int.reduceToNat, DD, x_app, x_ga0, x_gas, x_gan, Int.cast_ofNat_Int, eq_self, Int.zero_lt_one, Bool.not_false, Bool.not_true, beq_self_eq_true, WI, IA, NI, c1, c2, c3]
        refine callK_of false annulusref1_Small.call (m2) rfl rfl (by simp [ownOK, own1, hd, fzH, fzArgs, fzCells, fz, IA, WI, U32]) (by simp [U32, isD_u32, isD_v, isD_nil, isD_agg, IA, WI]) ?_
        simp -implicitDefEqProofs only [go_sem, Nat.reduceAdd, Nat.reduceEqDiff, Nat.reduceLT, reduceIte, reduceCtorEq, Int.reduceLE, Int.reduceLT, Int.reduceEq, Int.reduceAdd, Int.reduceMul, Int.reduceSub, Nat.reduceMul, Nat.reduceSub, Nat.reducePow, Nat.reduceLeDiff, Int.reduceToNat, DD, x_app, x_ga0, x_gas, x_gan, Int.cast_ofNat_Int, eq_self, Int.zero_lt_one, Bool.not_false, Bool.not_true, beq_self_eq_true, WI, IA, NI, c1, c2, c3]
        refine callK_of false whole_Of.call (o1) rfl rfl (by simp [ownOK, own1, hd, fzH, fzArgs, fzCells, fz, IA, WI, U32]) (by simp [U32, isD_u32, isD_v, isD_nil, isD_agg, IA, WI]) ?_
        simp -implicitDefEqProofs only [go_sem, Nat.reduceAdd, Nat.reduceEqDiff, Nat.reduceLT, reduceIte, reduceCtorEq, Int.reduceLE, Int.reduceLT, Int.reduceEq, Int.reduceAdd, Int.reduceMul, Int.reduceSub, Nat.reduceMul, Nat.reduceSub, Nat.reducePow, Nat.reduceLeDiff, Int.reduceToNat, DD, x_app, x_ga0, x_gas, x_gan, Int.cast_ofNat_Int, eq_self, Int.zero_lt_one, Bool.not_false, Bool.not_true, beq_self_eq_true, WI, IA, NI, c1, c2, c3]
        refine callK_of false whole_Small.call (w1) rfl rfl (by simp [ownOK, own1, hd, fzH, fzArgs, fzCells, fz, IA, WI, U32]) (by simp [U32, isD_u32, isD_v, isD_nil, isD_agg, IA, WI]) ?_
        simp -implicitDefEqProofs only [go_sem, Nat.reduceAdd, Nat.reduceEqDiff, Nat.reduceLT, reduceIte, reduceCtorEq, Int.reduceLE, Int.reduceLT, Int.reduceEq, Int.reduceAdd, Int.reduceMul, Int.reduceSub, Nat.reduceMul, Nat.reduceSub, Nat.reducePow, Nat.reduceLeDiff, Int.reduceToNat, DD, x_app, x_ga0, x_gas, x_gan, Int.cast_ofNat_Int, eq_self, Int.zero_lt_one, Bool.not_false, Bool.not_true, beq_self_eq_true, WI, IA, NI, c1, c2, c3]
        refine callK_of false whole_Shl.call (s1) rfl rfl (by simp [ownOK, own1, hd, fzH, fzArgs, fzCells, fz, IA, WI, U32]) (by simp [U32, isD_u32, isD_v, isD_nil, isD_agg, IA, WI]) ?_
        simp -implicitDefEqProofs only [go_sem, Nat.reduceAdd, Nat.reduceEqDiff, Nat.reduceLT, reduceIte, reduceCtorEq, Int.reduceLE, Int.reduceLT, Int.reduceEq, Int.reduceAdd, Int.reduceMul, Int.reduceSub, Nat.reduceMul, Nat.reduceSub, Nat.reducePow, Nat.reduceLeDiff, Int.reduceToNat, DD, x_app, x_ga0, x_gas, x_gan, Int.cast_ofNat_Int, eq_self, Int.zero_lt_one, Bool.not_false, Bool.not_true, beq_self_eq_true, WI, IA, NI, c1, c2, c3]
        refine callK_of false annulusref1_ShlInt.call (s2) rfl rfl (by simp [ownOK, own1, hd, fzH, fzArgs, fzCells, fz, IA, WI, U32]) (by simp [U32, isD_u32, isD_v, isD_nil, isD_agg, IA, WI]) ?_
        simp -implicitDefEqProofs only [go_sem, Nat.reduceAdd, Nat.reduceEqDiff, Nat.reduceLT, reduceIte, reduceCtorEq, Int.reduceLE, Int.reduceLT, Int.reduceEq, Int.reduceAdd, Int.reduceMul, Int.reduceSub, Nat.reduceMul, Nat.reduceSub, Nat.reducePow, Nat.reduceLeDiff, Int.reduceToNat, DD, x_app, x_ga0, x_gas, x_gan, Int.cast_ofNat_Int, eq_self, Int.zero_lt_one, Bool.not_false, Bool.not_true, beq_self_eq_true, WI, IA, NI, c1, c2, c3]
        refine callK_of false annulusref1_SameInt.call (ys) rfl rfl (by simp [ownOK, own1, hd, fzH, fzArgs, fzCells, fz, IA, WI, U32]) (by simp [U32, isD_u32, isD_v, isD_nil, isD_agg, IA, WI]) ?_
        simp -implicitDefEqProofs only [go_sem, Nat.reduceAdd, Nat.reduceEqDiff, Nat.reduceLT, reduceIte, reduceCtorEq, Int.reduceLE, Int.reduceLT, Int.reduceEq, Int.reduceAdd, Int.reduceMul, Int.reduceSub, Nat.reduceMul, Nat.reduceSub, Nat.reducePow, Nat.reduceLeDiff, Int.reduceToNat, DD, x_app, x_ga0, x_gas, x_gan, Int.cast_ofNat_Int, eq_self, Int.zero_lt_one, Bool.not_false, Bool.not_true, beq_self_eq_true, WI, IA, NI, c1, c2, c3]
        refine callK_of false whole_Of.call (o1) rfl rfl (by simp [ownOK, own1, hd, fzH, fzArgs, fzCells, fz, IA, WI, U32]) (by simp [U32, isD_u32, isD_v, isD_nil, isD_agg, IA, WI]) ?_
        simp -implicitDefEqProofs only [go_sem, Nat.reduceAdd, Nat.reduceEqDiff, Nat.reduceLT, reduceIte, reduceCtorEq, Int.reduceLE, Int.reduceLT, Int.reduceEq, Int.reduceAdd, Int.reduceMul, Int.reduceSub, Nat.reduceMul, Nat.reduceSub, Nat.reducePow, Nat.reduceLeDiff, Int.reduceToNat, DD, x_app, x_ga0, x_gas, x_gan, Int.cast_ofNat_Int, eq_self, Int.zero_lt_one, Bool.not_false, Bool.not_true, beq_self_eq_true, WI, IA, NI, c1, c2, c3]
        refine callK_of false annulusref1_Of.call (o2) rfl rfl (by simp [ownOK, own1, hd, fzH, fzArgs, fzCells, fz, IA, WI, U32]) (by simp [U32, isD_u32, isD_v, isD_nil, isD_agg, IA, WI]) ?_
        simp -implicitDefEqProofs only [go_sem, Nat.reduceAdd, Nat.reduceEqDiff, Nat.reduceLT, reduceIte, reduceCtorEq, Int.reduceLE, Int.reduceLT, Int.reduceEq, Int.reduceAdd, Int.reduceMul, Int.reduceSub, Nat.reduceMul, Nat.reduceSub, Nat.reducePow, Nat.reduceLeDiff, Int.reduceToNat, DD, x_app, x_ga0, x_gas, x_gan, Int.cast_ofNat_Int, eq_self, Int.zero_lt_one, Bool.not_false, Bool.not_true, beq_self_eq_true, WI, IA, NI, c1, c2, c3]
        refine callK_of false annulusref1_SameInt.call (yv) rfl rfl (by simp [ownOK, own1, hd, fzH, fzArgs, fzCells, fz, IA, WI, U32]) (by simp [U32, isD_u32, isD_v, isD_nil, isD_agg, IA, WI]) ?_
        simp -implicitDefEqProofs only [go_sem, Nat.reduceAdd, Nat.reduceEqDiff, Nat.reduceLT, reduceIte, reduceCtorEq, Int.reduceLE, Int.reduceLT, Int.reduceEq, Int.reduceAdd, Int.reduceMul, Int.reduceSub, Nat.reduceMul, Nat.reduceSub, Nat.reducePow, Nat.reduceLeDiff, Int.reduceToNat, DD, x_app, x_ga0, x_gas, x_gan, Int.cast_ofNat_Int, eq_self, Int.zero_lt_one, Bool.not_false, Bool.not_true, beq_self_eq_true, WI, IA, NI, c1, c2, c3]
    · have c2 : c ≤ 1500 := by omega
      simp -implicitDefEqProofs only [go_sem, Nat.reduceAdd, Nat.reduceEqDiff, Nat.reduceLT, reduceIte, reduceCtorEq, Int.reduceLE, Int.reduceLT, Int.reduceEq, Int.reduceAdd, Int.reduceMul, Int.reduceSub, Nat.reduceMul, Nat.reduceSub, Nat.reducePow, Nat.reduceLeDiff, Int.reduceToNat, DD, x_app, x_ga0, x_gas, x_gan, Int.cast_ofNat_Int, eq_self, Int.zero_lt_one, Bool.not_false, Bool.not_true, beq_self_eq_true, WI, IA, NI, c1, c2]
      refine callK_of false whole_Small.call (m1) rfl rfl (by simp [ownOK, own1, hd, fzH, fzArgs, fzCells, fz, IA, WI, U32]) (by simp [U32, isD_u32, isD_v, isD_nil, isD_agg, IA, WI]) ?_
      simp -implicitDefEqProofs only [go_sem, Nat.reduceAdd, Nat.reduceEqDiff, Nat.reduceLT, reduceIte, reduceCtorEq, Int.reduceLE, Int.reduceLT, Int.reduceEq, Int.reduceAdd, Int.reduceMul, Int.reduceSub, Nat.reduceMul, Nat.reduceSub, Nat.reducePow, Nat.reduceLeDiff, Int.reduceToNat, DD, x_app, x_ga0, x_gas, x_gan, Int.cast_ofNat_Int, eq_self, Int.zero_lt_one, Bool.not_false, Bool.not_true, beq_self_eq_true, WI, IA, NI, c1, c2]
      refine callK_of false annulusref1_Small.call (m2) rfl rfl (by simp [ownOK, own1, hd, fzH, fzArgs, fzCells, fz, IA, WI, U32]) (by simp [U32, isD_u32, isD_v, isD_nil, isD_agg, IA, WI]) ?_
      simp -implicitDefEqProofs only [go_sem, Nat.reduceAdd, Nat.reduceEqDiff, Nat.reduceLT, reduceIte, reduceCtorEq, Int.reduceLE, Int.reduceLT, Int.reduceEq, Int.reduceAdd, Int.reduceMul, Int.reduceSub, Nat.reduceMul, Nat.reduceSub, Nat.reducePow, Nat.reduceLeDiff, Int.reduceToNat, DD, x_app, x_ga0, x_gas, x_gan, Int.cast_ofNat_Int, eq_self, Int.zero_lt_one, Bool.not_false, Bool.not_true, beq_self_eq_true, WI, IA, NI, c1, c2]
      refine callK_of false whole_Shr.call (h1) rfl rfl (by simp [ownOK, own1, hd, fzH, fzArgs, fzCells, fz, IA, WI, U32]) (by simp [U32, isD_u32, isD_v, isD_nil, isD_agg, IA, WI]) ?_
      simp -implicitDefEqProofs only [go_sem, Nat.reduceAdd, Nat.reduceEqDiff, Nat.reduceLT, reduceIte, reduceCtorEq, Int.reduceLE, Int.reduceLT, Int.reduceEq, Int.reduceAdd, Int.reduceMul, Int.reduceSub, Nat.reduceMul, Nat.reduceSub, Nat.reducePow, Nat.reduceLeDiff, Int.reduceToNat, DD, x_app, x_ga0, x_gas, x_gan, Int.cast_ofNat_Int, eq_self, Int.zero_lt_one, Bool.not_false, Bool.not_true, beq_self_eq_true, WI, IA, NI, c1, c2]
      refine callK_of false annulusref1_ShrInt.call (h2) rfl rfl (by simp [ownOK, own1, hd, fzH, fzArgs, fzCells, fz, IA, WI, U32]) (by simp [U32, isD_u32, isD_v, isD_nil, isD_agg, IA, WI]) ?_
      simp -implicitDefEqProofs only [go_sem, Nat.reduceAdd, Nat.reduceEqDiff, Nat.reduceLT, reduceIte, reduceCtorEq, Int.reduceLE, Int.reduceLT, Int.reduceEq, Int.reduceAdd, Int.reduceMul, Int.reduceSub, Nat.reduceMul, Nat.reduceSub, Nat.reducePow, Nat.reduceLeDiff, Int.reduceToNat, DD, x_app, x_ga0, x_gas, x_gan, Int.cast_ofNat_Int, eq_self, Int.zero_lt_one, Bool.not_false, Bool.not_true, beq_self_eq_true, WI, IA, NI, c1, c2]
      refine callK_of false annulusref1_SameInt.call (yq) rfl rfl (by simp [ownOK, own1, hd, fzH, fzArgs, fzCells, fz, IA, WI, U32]) (by simp [U32, isD_u32, isD_v, isD_nil, isD_agg, IA, WI]) ?_
      simp -implicitDefEqProofs only [go_sem, Nat.reduceAdd, Nat.reduceEqDiff, Nat.reduceLT, reduceIte, reduceCtorEq, Int.reduceLE, Int.reduceLT, Int.reduceEq, Int.reduceAdd, Int.reduceMul, Int.reduceSub, Nat.reduceMul, Nat.reduceSub, Nat.reducePow, Nat.reduceLeDiff, Int.reduceToNat, DD, x_app, x_ga0, x_gas, x_gan, Int.cast_ofNat_Int, eq_self, Int.zero_lt_one, Bool.not_false, Bool.not_true, beq_self_eq_true, WI, IA, NI, c1, c2]
      refine callK_of false whole_Of.call (o1) rfl rfl (by simp [ownOK, own1, hd, fzH, fzArgs, fzCells, fz, IA, WI, U32]) (by simp [U32, isD_u32, isD_v, isD_nil, isD_agg, IA, WI]) ?_
      simp -implicitDefEqProofs only [go_sem, Nat.reduceAdd, Nat.reduceEqDiff, Nat.reduceLT, reduceIte, reduceCtorEq, Int.reduceLE, Int.reduceLT, Int.reduceEq, Int.reduceAdd, Int.reduceMul, Int.reduceSub, Nat.reduceMul, Nat.reduceSub, Nat.reducePow, Nat.reduceLeDiff, Int.reduceToNat, DD, x_app, x_ga0, x_gas, x_gan, Int.cast_ofNat_Int, eq_self, Int.zero_lt_one, Bool.not_false, Bool.not_true, beq_self_eq_true, WI, IA, NI, c1, c2]
      refine callK_of false whole_Small.call (w1) rfl rfl (by simp [ownOK, own1, hd, fzH, fzArgs, fzCells, fz, IA, WI, U32]) (by simp [U32, isD_u32, isD_v, isD_nil, isD_agg, IA, WI]) ?_
      simp -implicitDefEqProofs only [go_sem, Nat.reduceAdd, Nat.reduceEqDiff, Nat.reduceLT, reduceIte, reduceCtorEq, Int.reduceLE, Int.reduceLT, Int.reduceEq, Int.reduceAdd, Int.reduceMul, Int.reduceSub, Nat.reduceMul, Nat.reduceSub, Nat.reducePow, Nat.reduceLeDiff, Int.reduceToNat, DD, x_app, x_ga0, x_gas, x_gan, Int.cast_ofNat_Int, eq_self, Int.zero_lt_one, Bool.not_false, Bool.not_true, beq_self_eq_true, WI, IA, NI, c1, c2]
      refine callK_of false whole_Shl.call (s1) rfl rfl (by simp [ownOK, own1, hd, fzH, fzArgs, fzCells, fz, IA, WI, U32]) (by simp [U32, isD_u32, isD_v, isD_nil, isD_agg, IA, WI]) ?_
      simp -implicitDefEqProofs only [go_sem, Nat.reduceAdd, Nat.reduceEqDiff, Nat.reduceLT, reduceIte, reduceCtorEq, Int.reduceLE, Int.reduceLT, Int.reduceEq, Int.reduceAdd, Int.reduceMul, Int.reduceSub, Nat.reduceMul, Nat.reduceSub, Nat.reducePow, Nat.reduceLeDiff, Int.reduceToNat, DD, x_app, x_ga0, x_gas, x_gan, Int.cast_ofNat_Int, eq_self, Int.zero_lt_one, Bool.not_false, Bool.not_true, beq_self_eq_true, WI, IA, NI, c1, c2]
      refine callK_of false annulusref1_ShlInt.call (s2) rfl rfl (by simp [ownOK, own1, hd, fzH, fzArgs, fzCells, fz, IA, WI, U32]) (by simp [U32, isD_u32, isD_v, isD_nil, isD_agg, IA, WI]) ?_
      simp -implicitDefEqProofs only [go_sem, Nat.reduceAdd, Nat.reduceEqDiff, Nat.reduceLT, reduceIte, reduceCtorEq, Int.reduceLE, Int.reduceLT, Int.reduceEq, Int.reduceAdd, Int.reduceMul, Int.reduceSub, Nat.reduceMul, Nat.reduceSub, Nat.reducePow, Nat.reduceLeDiff, Int.reduceToNat, DD, x_app, x_ga0, x_gas, x_gan, Int.cast_ofNat_Int, eq_self, Int.zero_lt_one, Bool.not_false, Bool.not_true, beq_self_eq_true, WI, IA, NI, c1, c2]
      refine callK_of false annulusref1_SameInt.call (ys) rfl rfl (by simp [ownOK, own1, hd, fzH, fzArgs, fzCells, fz, IA, WI, U32]) (by simp [U32, isD_u32, isD_v, isD_nil, isD_agg, IA, WI]) ?_
      simp -implicitDefEqProofs only [go_sem, Nat.reduceAdd, Nat.reduceEqDiff, Nat.reduceLT, reduceIte, reduceCtorEq, Int.reduceLE, Int.reduceLT, Int.reduceEq, Int.reduceAdd, Int.reduceMul, Int.reduceSub, Nat.reduceMul, Nat.reduceSub, Nat.reducePow, Nat.reduceLeDiff, Int.reduceToNat, DD, x_app, x_ga0, x_gas, x_gan, Int.cast_ofNat_Int, eq_self, Int.zero_lt_one, Bool.not_false, Bool.not_true, beq_self_eq_true, WI, IA, NI, c1, c2]
      refine callK_of false whole_Of.call (o1) rfl rfl (by simp [ownOK, own1, hd, fzH, fzArgs, fzCells, fz, IA, WI, U32]) (by simp [U32, isD_u32, isD_v, isD_nil, isD_agg, IA, WI]) ?_
      simp -implicitDefEqProofs only [go_sem, Nat.reduceAdd, Nat.reduceEqDiff, Nat.reduceLT, reduceIte, reduceCtorEq, Int.reduceLE, Int.reduceLT, Int.reduceEq, Int.reduceAdd, Int.reduceMul, Int.reduceSub, Nat.reduceMul, Nat.reduceSub, Nat.reducePow, Nat.reduceLeDiff, Int.reduceToNat, DD, x_app, x_ga0, x_gas, x_gan, Int.cast_ofNat_Int, eq_self, Int.zero_lt_one, Bool.not_false, Bool.not_true, beq_self_eq_true, WI, IA, NI, c1, c2]
      refine callK_of false annulusref1_Of.call (o2) rfl rfl (by simp [ownOK, own1, hd, fzH, fzArgs, fzCells, fz, IA, WI, U32]) (by simp [U32, isD_u32, isD_v, isD_nil, isD_agg, IA, WI]) ?_
      simp -implicitDefEqProofs only [go_sem, Nat.reduceAdd, Nat.reduceEqDiff, Nat.reduceLT, reduceIte, reduceCtorEq, Int.reduceLE, Int.reduceLT, Int.reduceEq, Int.reduceAdd, Int.reduceMul, Int.reduceSub, Nat.reduceMul, Nat.reduceSub, Nat.reducePow, Nat.reduceLeDiff, Int.reduceToNat, DD, x_app, x_ga0, x_gas, x_gan, Int.cast_ofNat_Int, eq_self, Int.zero_lt_one, Bool.not_false, Bool.not_true, beq_self_eq_true, WI, IA, NI, c1, c2]
      refine callK_of false annulusref1_SameInt.call (yv) rfl rfl (by simp [ownOK, own1, hd, fzH, fzArgs, fzCells, fz, IA, WI, U32]) (by simp [U32, isD_u32, isD_v, isD_nil, isD_agg, IA, WI]) ?_
      simp -implicitDefEqProofs only [go_sem, Nat.reduceAdd, Nat.reduceEqDiff, Nat.reduceLT, reduceIte, reduceCtorEq, Int.reduceLE, Int.reduceLT, Int.reduceEq, Int.reduceAdd, Int.reduceMul, Int.reduceSub, Nat.reduceMul, Nat.reduceSub, Nat.reducePow, Nat.reduceLeDiff, Int.reduceToNat, DD, x_app, x_ga0, x_gas, x_gan, Int.cast_ofNat_Int, eq_self, Int.zero_lt_one, Bool.not_false, Bool.not_true, beq_self_eq_true, WI, IA, NI, c1, c2]
  · skip
    refine callK_of false annuluslaw2_few.call (wfew_no n l hfl) rfl rfl (by simp [ownOK, own1, hd, fzH, fzArgs, fzCells, fz, IA, WI, U32]) (by simp [U32, isD_u32, isD_v, isD_nil, isD_agg, IA, WI]) ?_
    simp -implicitDefEqProofs only [go_sem, Nat.reduceAdd, Nat.reduceEqDiff, Nat.reduceLT, reduceIte, reduceCtorEq, Int.reduceLE, Int.reduceLT, Int.reduceEq, Int.reduceAdd, Int.reduceMul, Int.reduceSub, Nat.reduceMul, Nat.reduceSub, Nat.reducePow, Nat.reduceLeDiff, Int.reduceToNat, DD, x_app, x_ga0, x_gas, x_gan, Int.cast_ofNat_Int, eq_self, Int.zero_lt_one, Bool.not_false, Bool.not_true, beq_self_eq_true, WI, IA, NI]
set_option maxRecDepth 100000 in
set_option maxHeartbeats 8000000 in
theorem wholeEnds_sat (v : Nat) (hv : v < 256) : Sat CT false 4 [.v (.int .u8 (v : Nat))] (Bo true) := by
  refine sat_of annuluslaw2_WholeEnds.ok (by simp) ?_
  have DD := annuluslaw2_WholeEnds.dr
  simp only [drP, drPx, drR, drS, bodyOf, Try.f4, Nat.reduceEqDiff, reduceIte, true_and, and_true] at DD
  obtain ⟨r, hr⟩ : ∃ r : Nat, r = v % 3 := ⟨_, rfl⟩
  have t1 : (v : Int).tmod 3 = (r : Int) := by rw [Int.tmod_eq_emod_of_nonneg (by omega)]; omega
  have t2 : IntKind.i64.wrap (r : Int) = (r : Int) := wrap_i64 (by omega) (by omega)
  have t3 := incI (j := r) (by omega)
  have t4 : IntKind.i64.wrap (9223372036854775807 - (r : Int)) = 9223372036854775807 - (r : Int) := wrap_i64 (by omega) (by omega)
  have o1 := wof_sat 1 (by omega) (by omega)
  have l1 := shl_r (ri1 (z := 1) (by decide)) 63 (by omega)
  rw [show (1 * 2 ^ shN 63 : Int) = 9223372036854775808 by decide] at l1
  have rt : RI (WI 9223372036854775808) 9223372036854775808 2 := ri_small (by decide)
  have o2 := wof_sat ((r + 1 : Nat) : Int) (by omega) (by omega)
  have ro : RI (WI ((r + 1 : Nat) : Int)) ((r + 1 : Nat) : Int) 1 := ri1 (by omega)
  have s1 := sub_r rt ro (by omega) (by omega)
  rw [show (9223372036854775808 : Int) - ((r + 1 : Nat) : Int) = 9223372036854775807 - (r : Int) by omega] at s1
  have m1 := small_y (x := 9223372036854775807 - (r : Int)) (ri_small (by omega)) (by omega) (by omega) (by omega)
  have e1 := neg_r rt (by omega)
  have m2 := small_y (x := -9223372036854775808) (ri_small (by decide)) (by omega) (by omega) (by omega)
  have m3 := small_n rt (by omega) (by omega)
  have s2 := sub_r (ri_small (z := -9223372036854775808) (by decide)) ro (by omega) (by omega)
  have m4 := small_n (x := -9223372036854775808 - ((r + 1 : Nat) : Int)) (ri_small (by omega)) (by omega) (by omega)
  have o3 := wof_sat (-9223372036854775808) (by omega) (by omega)
  have y1 := same_w (x := -9223372036854775808) rfl (by have := Lz1 (z := -9223372036854775808) (by decide); omega)
  simp -implicitDefEqProofs only [go_sem, Nat.reduceAdd, Nat.reduceEqDiff, Nat.reduceLT, reduceIte, reduceCtorEq, Int.reduceLE, Int.reduceLT, Int.reduceEq, Int.reduceAdd, Int.reduceMul, Int.reduceSub, Nat.reduceMul, Nat.reduceSub, Nat.reducePow, Nat.reduceLeDiff, Int.reduceToNat, Try.f4, DD, beq_self_eq_true, Bool.not_false, Bool.not_true, WI, IA, NI, t1, t2, t3, t4]
  refine callK_of false annuluslaw2_known.call (wknown_sat) rfl rfl (by simp [ownOK, own1, hd, fzH, fzArgs, fzCells, fz, IA, WI, U32]) (by simp [U32, isD_u32, isD_v, isD_nil, isD_agg, IA, WI]) ?_
  simp -implicitDefEqProofs only [go_sem, Nat.reduceAdd, Nat.reduceEqDiff, Nat.reduceLT, reduceIte, reduceCtorEq, Int.reduceLE, Int.reduceLT, Int.reduceEq, Int.reduceAdd, Int.reduceMul, Int.reduceSub, Nat.reduceMul, Nat.reduceSub, Nat.reducePow, Nat.reduceLeDiff, Int.reduceToNat, DD, x_app, x_ga0, x_gas, x_gan, Int.cast_ofNat_Int, eq_self, Int.zero_lt_one, Bool.not_false, Bool.not_true, beq_self_eq_true, WI, IA, NI, t1, t2, t3, t4]
  refine callK_of false whole_Of.call (o1) rfl rfl (by simp [ownOK, own1, hd, fzH, fzArgs, fzCells, fz, IA, WI, U32]) (by simp [U32, isD_u32, isD_v, isD_nil, isD_agg, IA, WI]) ?_
  simp -implicitDefEqProofs only [go_sem, Nat.reduceAdd, Nat.reduceEqDiff, Nat.reduceLT, reduceIte, reduceCtorEq, Int.reduceLE, Int.reduceLT, Int.reduceEq, Int.reduceAdd, Int.reduceMul, Int.reduceSub, Nat.reduceMul, Nat.reduceSub, Nat.reducePow, Nat.reduceLeDiff, Int.reduceToNat, DD, x_app, x_ga0, x_gas, x_gan, Int.cast_ofNat_Int, eq_self, Int.zero_lt_one, Bool.not_false, Bool.not_true, beq_self_eq_true, WI, IA, NI, t1, t2, t3, t4]
  refine callK_of false whole_Shl.call (l1) rfl rfl (by simp [ownOK, own1, hd, fzH, fzArgs, fzCells, fz, IA, WI, U32]) (by simp [U32, isD_u32, isD_v, isD_nil, isD_agg, IA, WI]) ?_
  simp -implicitDefEqProofs only [go_sem, Nat.reduceAdd, Nat.reduceEqDiff, Nat.reduceLT, reduceIte, reduceCtorEq, Int.reduceLE, Int.reduceLT, Int.reduceEq, Int.reduceAdd, Int.reduceMul, Int.reduceSub, Nat.reduceMul, Nat.reduceSub, Nat.reducePow, Nat.reduceLeDiff, Int.reduceToNat, DD, x_app, x_ga0, x_gas, x_gan, Int.cast_ofNat_Int, eq_self, Int.zero_lt_one, Bool.not_false, Bool.not_true, beq_self_eq_true, WI, IA, NI, t1, t2, t3, t4]
  refine callK_of false whole_Of.call (o2) rfl rfl (by simp [ownOK, own1, hd, fzH, fzArgs, fzCells, fz, IA, WI, U32]) (by simp [U32, isD_u32, isD_v, isD_nil, isD_agg, IA, WI]) ?_
  simp -implicitDefEqProofs only [go_sem, Nat.reduceAdd, Nat.reduceEqDiff, Nat.reduceLT, reduceIte, reduceCtorEq, Int.reduceLE, Int.reduceLT, Int.reduceEq, Int.reduceAdd, Int.reduceMul, Int.reduceSub, Nat.reduceMul, Nat.reduceSub, Nat.reducePow, Nat.reduceLeDiff, Int.reduceToNat, DD, x_app, x_ga0, x_gas, x_gan, Int.cast_ofNat_Int, eq_self, Int.zero_lt_one, Bool.not_false, Bool.not_true, beq_self_eq_true, WI, IA, NI, t1, t2, t3, t4]
  refine callK_of false whole_Sub.call (s1) rfl rfl (by simp [ownOK, own1, hd, fzH, fzArgs, fzCells, fz, IA, WI, U32]) (by simp [U32, isD_u32, isD_v, isD_nil, isD_agg, IA, WI]) ?_
  simp -implicitDefEqProofs only [go_sem, Nat.reduceAdd, Nat.reduceEqDiff, Nat.reduceLT, reduceIte, reduceCtorEq, Int.reduceLE, Int.reduceLT, Int.reduceEq, Int.reduceAdd, Int.reduceMul, Int.reduceSub, Nat.reduceMul, Nat.reduceSub, Nat.reducePow, Nat.reduceLeDiff, Int.reduceToNat, DD, x_app, x_ga0, x_gas, x_gan, Int.cast_ofNat_Int, eq_self, Int.zero_lt_one, Bool.not_false, Bool.not_true, beq_self_eq_true, WI, IA, NI, t1, t2, t3, t4]
  refine callK_of false whole_Small.call (m1) rfl rfl (by simp [ownOK, own1, hd, fzH, fzArgs, fzCells, fz, IA, WI, U32]) (by simp [U32, isD_u32, isD_v, isD_nil, isD_agg, IA, WI]) ?_
  simp -implicitDefEqProofs only [go_sem, Nat.reduceAdd, Nat.reduceEqDiff, Nat.reduceLT, reduceIte, reduceCtorEq, Int.reduceLE, Int.reduceLT, Int.reduceEq, Int.reduceAdd, Int.reduceMul, Int.reduceSub, Nat.reduceMul, Nat.reduceSub, Nat.reducePow, Nat.reduceLeDiff, Int.reduceToNat, DD, x_app, x_ga0, x_gas, x_gan, Int.cast_ofNat_Int, eq_self, Int.zero_lt_one, Bool.not_false, Bool.not_true, beq_self_eq_true, WI, IA, NI, t1, t2, t3, t4]
  refine callK_of false whole_Neg.call (e1) rfl rfl (by simp [ownOK, own1, hd, fzH, fzArgs, fzCells, fz, IA, WI, U32]) (by simp [U32, isD_u32, isD_v, isD_nil, isD_agg, IA, WI]) ?_
  simp -implicitDefEqProofs only [go_sem, Nat.reduceAdd, Nat.reduceEqDiff, Nat.reduceLT, reduceIte, reduceCtorEq, Int.reduceLE, Int.reduceLT, Int.reduceEq, Int.reduceAdd, Int.reduceMul, Int.reduceSub, Nat.reduceMul, Nat.reduceSub, Nat.reducePow, Nat.reduceLeDiff, Int.reduceToNat, DD, x_app, x_ga0, x_gas, x_gan, Int.cast_ofNat_Int, eq_self, Int.zero_lt_one, Bool.not_false, Bool.not_true, beq_self_eq_true, WI, IA, NI, t1, t2, t3, t4]
  refine callK_of false whole_Small.call (m2) rfl rfl (by simp [ownOK, own1, hd, fzH, fzArgs, fzCells, fz, IA, WI, U32]) (by simp [U32, isD_u32, isD_v, isD_nil, isD_agg, IA, WI]) ?_
  simp -implicitDefEqProofs only [go_sem, Nat.reduceAdd, Nat.reduceEqDiff, Nat.reduceLT, reduceIte, reduceCtorEq, Int.reduceLE, Int.reduceLT, Int.reduceEq, Int.reduceAdd, Int.reduceMul, Int.reduceSub, Nat.reduceMul, Nat.reduceSub, Nat.reducePow, Nat.reduceLeDiff, Int.reduceToNat, DD, x_app, x_ga0, x_gas, x_gan, Int.cast_ofNat_Int, eq_self, Int.zero_lt_one, Bool.not_false, Bool.not_true, beq_self_eq_true, WI, IA, NI, t1, t2, t3, t4]
  refine callK_of false whole_Small.call (m3) rfl rfl (by simp [ownOK, own1, hd, fzH, fzArgs, fzCells, fz, IA, WI, U32]) (by simp [U32, isD_u32, isD_v, isD_nil, isD_agg, IA, WI]) ?_
  simp -implicitDefEqProofs only [go_sem, Nat.reduceAdd, Nat.reduceEqDiff, Nat.reduceLT, reduceIte, reduceCtorEq, Int.reduceLE, Int.reduceLT, Int.reduceEq, Int.reduceAdd, Int.reduceMul, Int.reduceSub, Nat.reduceMul, Nat.reduceSub, Nat.reducePow, Nat.reduceLeDiff, Int.reduceToNat, DD, x_app, x_ga0, x_gas, x_gan, Int.cast_ofNat_Int, eq_self, Int.zero_lt_one, Bool.not_false, Bool.not_true, beq_self_eq_true, WI, IA, NI, t1, t2, t3, t4]
  refine callK_of false whole_Neg.call (e1) rfl rfl (by simp [ownOK, own1, hd, fzH, fzArgs, fzCells, fz, IA, WI, U32]) (by simp [U32, isD_u32, isD_v, isD_nil, isD_agg, IA, WI]) ?_
  simp -implicitDefEqProofs only [go_sem, Nat.reduceAdd, Nat.reduceEqDiff, Nat.reduceLT, reduceIte, reduceCtorEq, Int.reduceLE, Int.reduceLT, Int.reduceEq, Int.reduceAdd, Int.reduceMul, Int.reduceSub, Nat.reduceMul, Nat.reduceSub, Nat.reducePow, Nat.reduceLeDiff, Int.reduceToNat, DD, x_app, x_ga0, x_gas, x_gan, Int.cast_ofNat_Int, eq_self, Int.zero_lt_one, Bool.not_false, Bool.not_true, beq_self_eq_true, WI, IA, NI, t1, t2, t3, t4]
  refine callK_of false whole_Sub.call (s2) rfl rfl (by simp [ownOK, own1, hd, fzH, fzArgs, fzCells, fz, IA, WI, U32]) (by simp [U32, isD_u32, isD_v, isD_nil, isD_agg, IA, WI]) ?_
  simp -implicitDefEqProofs only [go_sem, Nat.reduceAdd, Nat.reduceEqDiff, Nat.reduceLT, reduceIte, reduceCtorEq, Int.reduceLE, Int.reduceLT, Int.reduceEq, Int.reduceAdd, Int.reduceMul, Int.reduceSub, Nat.reduceMul, Nat.reduceSub, Nat.reducePow, Nat.reduceLeDiff, Int.reduceToNat, DD, x_app, x_ga0, x_gas, x_gan, Int.cast_ofNat_Int, eq_self, Int.zero_lt_one, Bool.not_false, Bool.not_true, beq_self_eq_true, WI, IA, NI, t1, t2, t3, t4]
  refine callK_of false whole_Small.call (m4) rfl rfl (by simp [ownOK, own1, hd, fzH, fzArgs, fzCells, fz, IA, WI, U32]) (by simp [U32, isD_u32, isD_v, isD_nil, isD_agg, IA, WI]) ?_
  simp -implicitDefEqProofs only [go_sem, Nat.reduceAdd, Nat.reduceEqDiff, Nat.reduceLT, reduceIte, reduceCtorEq, Int.reduceLE, Int.reduceLT, Int.reduceEq, Int.reduceAdd, Int.reduceMul, Int.reduceSub, Nat.reduceMul, Nat.reduceSub, Nat.reducePow, Nat.reduceLeDiff, Int.reduceToNat, DD, x_app, x_ga0, x_gas, x_gan, Int.cast_ofNat_Int, eq_self, Int.zero_lt_one, Bool.not_false, Bool.not_true, beq_self_eq_true, WI, IA, NI, t1, t2, t3, t4]
  refine callK_of false whole_Of.call (o3) rfl rfl (by simp [ownOK, own1, hd, fzH, fzArgs, fzCells, fz, IA, WI, U32]) (by simp [U32, isD_u32, isD_v, isD_nil, isD_agg, IA, WI]) ?_
  simp -implicitDefEqProofs only [go_sem, Nat.reduceAdd, Nat.reduceEqDiff, Nat.reduceLT, reduceIte, reduceCtorEq, Int.reduceLE, Int.reduceLT, Int.reduceEq, Int.reduceAdd, Int.reduceMul, Int.reduceSub, Nat.reduceMul, Nat.reduceSub, Nat.reducePow, Nat.reduceLeDiff, Int.reduceToNat, DD, x_app, x_ga0, x_gas, x_gan, Int.cast_ofNat_Int, eq_self, Int.zero_lt_one, Bool.not_false, Bool.not_true, beq_self_eq_true, WI, IA, NI, t1, t2, t3, t4]
  refine callK_of false whole_Neg.call (e1) rfl rfl (by simp [ownOK, own1, hd, fzH, fzArgs, fzCells, fz, IA, WI, U32]) (by simp [U32, isD_u32, isD_v, isD_nil, isD_agg, IA, WI]) ?_
  simp -implicitDefEqProofs only [go_sem, Nat.reduceAdd, Nat.reduceEqDiff, Nat.reduceLT, reduceIte, reduceCtorEq, Int.reduceLE, Int.reduceLT, Int.reduceEq, Int.reduceAdd, Int.reduceMul, Int.reduceSub, Nat.reduceMul, Nat.reduceSub, Nat.reducePow, Nat.reduceLeDiff, Int.reduceToNat, DD, x_app, x_ga0, x_gas, x_gan, Int.cast_ofNat_Int, eq_self, Int.zero_lt_one, Bool.not_false, Bool.not_true, beq_self_eq_true, WI, IA, NI, t1, t2, t3, t4]
  refine callK_of false annulusref1_SameInt.call (y1) rfl rfl (by simp [ownOK, own1, hd, fzH, fzArgs, fzCells, fz, IA, WI, U32]) (by simp [U32, isD_u32, isD_v, isD_nil, isD_agg, IA, WI]) ?_
  simp -implicitDefEqProofs only [go_sem, Nat.reduceAdd, Nat.reduceEqDiff, Nat.reduceLT, reduceIte, reduceCtorEq, Int.reduceLE, Int.reduceLT, Int.reduceEq, Int.reduceAdd, Int.reduceMul, Int.reduceSub, Nat.reduceMul, Nat.reduceSub, Nat.reducePow, Nat.reduceLeDiff, Int.reduceToNat, DD, x_app, x_ga0, x_gas, x_gan, Int.cast_ofNat_Int, eq_self, Int.zero_lt_one, Bool.not_false, Bool.not_true, beq_self_eq_true, WI, IA, NI, t1, t2, t3, t4]
set_option maxRecDepth 100000 in
set_option maxHeartbeats 8000000 in
theorem wholeSmalls_sat (a b : Int) (c : Nat) (ha : -2147483648 ≤ a ∧ a ≤ 2147483647) (hb : -2147483648 ≤ b ∧ b ≤ 2147483647) (hc : c < 256) : Sat CT false 6 [.v (.int .i32 a), .v (.int .i32 b), .v (.int .u8 (c : Nat))] (Bo true) := by
  refine sat_of annuluslaw2_WholeSmalls.ok (by simp) ?_
  have DD := annuluslaw2_WholeSmalls.dr
  simp only [drP, drPx, drR, drS, bodyOf, Try.f6, Nat.reduceEqDiff, reduceIte, true_and, and_true] at DD
  obtain ⟨j, hj⟩ : ∃ j : Nat, j = c % 30 := ⟨_, rfl⟩
  have t1 : (c : Int).tmod 30 = (j : Int) := by rw [Int.tmod_eq_emod_of_nonneg (by omega)]; omega
  have t2 : IntKind.i64.wrap (j : Int) = (j : Int) := wrap_i64 (by omega) (by omega)
  have t3 : IntKind.u64.wrap (j : Int) = (j : Int) := wrap64n (by omega)
  have t4 : (0 : Int) ≤ (j : Int) := by omega
  have t5 : min j 64 = j := by omega
  have wa : IntKind.i64.wrap a = a := wrap_i64 (by omega) (by omega)
  have wb : IntKind.i64.wrap b = b := wrap_i64 (by omega) (by omega)
  have w1 : IntKind.i64.wrap (a + b) = a + b := wrap_i64 (by omega) (by omega)
  have w2 : IntKind.i64.wrap (a - b) = a - b := wrap_i64 (by omega) (by omega)
  have hab : (a * b).natAbs ≤ 4611686018427387904 := by
    rw [Int.natAbs_mul]
    exact Nat.mul_le_mul (show a.natAbs ≤ 2147483648 by omega) (show b.natAbs ≤ 2147483648 by omega)
  have w3 : IntKind.i64.wrap (a * b) = a * b := wrap_i64 (by omega) (by omega)
  have hsh : shN (j : Int) = j := by unfold shN; omega
  have hpj : 2 ^ j ≤ 2 ^ 30 := Nat.pow_le_pow_right (by omega) (by omega)
  replace hpj : 2 ^ j ≤ 1073741824 := hpj
  have e2 : ((2 ^ j : Nat) : Int) = 2 ^ j := by simp
  have hal : (a * 2 ^ j).natAbs ≤ 2305843009213693952 := by
    rw [Int.natAbs_mul, ← e2]
    exact Nat.mul_le_mul (show a.natAbs ≤ 2147483648 by omega) (show ((2 ^ j : Nat) : Int).natAbs ≤ 1073741824 from hpj)
  have w4 : IntKind.i64.wrap (a * 2 ^ j) = a * 2 ^ j := wrap_i64 (by omega) (by omega)
  have fd : a.fdiv (2 ^ j) = fq a (2 ^ j) := by
    rw [fq_pow, Int.fdiv_eq_ediv_of_nonneg _ (Int.pow_nonneg (by decide))]
  have hqn : (fq a (2 ^ j)).natAbs ≤ 2147483648 := by
    rw [fq_pow]
    have := Int.natAbs_ediv_le_natAbs a (2 ^ j)
    omega
  have o1 := wof_sat a (by omega) (by omega)
  have o2 := wof_sat b (by omega) (by omega)
  have ra : RI (WI a) a 1 := ri1 (by omega)
  have rb : RI (WI b) b 1 := ri1 (by omega)
  have s1 := add_r ra rb (by omega) (by omega)
  have m1 := small_y (x := a + b) (ri_small (by omega)) (by omega) (by omega) (by omega)
  have s2 := sub_r ra rb (by omega) (by omega)
  have m2 := small_y (x := a - b) (ri_small (by omega)) (by omega) (by omega) (by omega)
  have s3 := mul_r ra rb (by omega) (by omega)
  have m3 := small_y (x := a * b) (ri_small (by omega)) (by omega) (by omega) (by omega)
  have s4 := shr_r ra (j : Int) (by omega)
  rw [hsh] at s4
  have m4 := small_y (x := fq a (2 ^ j)) (ri_small (by omega)) (by omega) (by omega) (by omega)
  have s5 := shl_r ra (j : Int) (by omega)
  rw [hsh] at s5
  have m5 := small_y (x := a * 2 ^ j) (ri_small (by omega)) (by omega) (by omega) (by omega)
  simp -implicitDefEqProofs only [go_sem, Nat.reduceAdd, Nat.reduceEqDiff, Nat.reduceLT, reduceIte, reduceCtorEq, Int.reduceLE, Int.reduceLT, Int.reduceEq, Int.reduceAdd, Int.reduceMul, Int.reduceSub, Nat.reduceMul, Nat.reduceSub, Nat.reducePow, Nat.reduceLeDiff, Int.reduceToNat, Try.f6, DD, beq_self_eq_true, Bool.not_false, Bool.not_true, WI, IA, NI, t1, t2, t3, t4, t5, wa, wb, w1, w2, w3, w4, fd, Int.toNat_natCast]
  refine callK_of false annuluslaw2_known.call (wknown_sat) rfl rfl (by simp [ownOK, own1, hd, fzH, fzArgs, fzCells, fz, IA, WI, U32]) (by simp [U32, isD_u32, isD_v, isD_nil, isD_agg, IA, WI]) ?_
  simp -implicitDefEqProofs only [go_sem, Nat.reduceAdd, Nat.reduceEqDiff, Nat.reduceLT, reduceIte, reduceCtorEq, Int.reduceLE, Int.reduceLT, Int.reduceEq, Int.reduceAdd, Int.reduceMul, Int.reduceSub, Nat.reduceMul, Nat.reduceSub, Nat.reducePow, Nat.reduceLeDiff, Int.reduceToNat, DD, x_app, x_ga0, x_gas, x_gan, Int.cast_ofNat_Int, eq_self, Int.zero_lt_one, Bool.not_false, Bool.not_true, beq_self_eq_true, WI, IA, NI, t1, t2, t3, t4, t5, wa, wb, w1, w2, w3, w4, fd, Int.toNat_natCast]
  refine callK_of false whole_Of.call (o1) rfl rfl (by simp [ownOK, own1, hd, fzH, fzArgs, fzCells, fz, IA, WI, U32]) (by simp [U32, isD_u32, isD_v, isD_nil, isD_agg, IA, WI]) ?_
  simp -implicitDefEqProofs only [go_sem, Nat.reduceAdd, Nat.reduceEqDiff, Nat.reduceLT, reduceIte, reduceCtorEq, Int.reduceLE, Int.reduceLT, Int.reduceEq, Int.reduceAdd, Int.reduceMul, Int.reduceSub, Nat.reduceMul, Nat.reduceSub, Nat.reducePow, Nat.reduceLeDiff, Int.reduceToNat, DD, x_app, x_ga0, x_gas, x_gan, Int.cast_ofNat_Int, eq_self, Int.zero_lt_one, Bool.not_false, Bool.not_true, beq_self_eq_true, WI, IA, NI, t1, t2, t3, t4, t5, wa, wb, w1, w2, w3, w4, fd, Int.toNat_natCast]
  refine callK_of false whole_Of.call (o2) rfl rfl (by simp [ownOK, own1, hd, fzH, fzArgs, fzCells, fz, IA, WI, U32]) (by simp [U32, isD_u32, isD_v, isD_nil, isD_agg, IA, WI]) ?_
  simp -implicitDefEqProofs only [go_sem, Nat.reduceAdd, Nat.reduceEqDiff, Nat.reduceLT, reduceIte, reduceCtorEq, Int.reduceLE, Int.reduceLT, Int.reduceEq, Int.reduceAdd, Int.reduceMul, Int.reduceSub, Nat.reduceMul, Nat.reduceSub, Nat.reducePow, Nat.reduceLeDiff, Int.reduceToNat, DD, x_app, x_ga0, x_gas, x_gan, Int.cast_ofNat_Int, eq_self, Int.zero_lt_one, Bool.not_false, Bool.not_true, beq_self_eq_true, WI, IA, NI, t1, t2, t3, t4, t5, wa, wb, w1, w2, w3, w4, fd, Int.toNat_natCast]
  refine callK_of false whole_Add.call (s1) rfl rfl (by simp [ownOK, own1, hd, fzH, fzArgs, fzCells, fz, IA, WI, U32]) (by simp [U32, isD_u32, isD_v, isD_nil, isD_agg, IA, WI]) ?_
  simp -implicitDefEqProofs only [go_sem, Nat.reduceAdd, Nat.reduceEqDiff, Nat.reduceLT, reduceIte, reduceCtorEq, Int.reduceLE, Int.reduceLT, Int.reduceEq, Int.reduceAdd, Int.reduceMul, Int.reduceSub, Nat.reduceMul, Nat.reduceSub, Nat.reducePow, Nat.reduceLeDiff, Int.reduceToNat, DD, x_app, x_ga0, x_gas, x_gan, Int.cast_ofNat_Int, eq_self, Int.zero_lt_one, Bool.not_false, Bool.not_true, beq_self_eq_true, WI, IA, NI, t1, t2, t3, t4, t5, wa, wb, w1, w2, w3, w4, fd, Int.toNat_natCast]
  refine callK_of false whole_Small.call (m1) rfl rfl (by simp [ownOK, own1, hd, fzH, fzArgs, fzCells, fz, IA, WI, U32]) (by simp [U32, isD_u32, isD_v, isD_nil, isD_agg, IA, WI]) ?_
  simp -implicitDefEqProofs only [go_sem, Nat.reduceAdd, Nat.reduceEqDiff, Nat.reduceLT, reduceIte, reduceCtorEq, Int.reduceLE, Int.reduceLT, Int.reduceEq, Int.reduceAdd, Int.reduceMul, Int.reduceSub, Nat.reduceMul, Nat.reduceSub, Nat.reducePow, Nat.reduceLeDiff, Int.reduceToNat, DD, x_app, x_ga0, x_gas, x_gan, Int.cast_ofNat_Int, eq_self, Int.zero_lt_one, Bool.not_false, Bool.not_true, beq_self_eq_true, WI, IA, NI, t1, t2, t3, t4, t5, wa, wb, w1, w2, w3, w4, fd, Int.toNat_natCast]
  refine callK_of false whole_Sub.call (s2) rfl rfl (by simp [ownOK, own1, hd, fzH, fzArgs, fzCells, fz, IA, WI, U32]) (by simp [U32, isD_u32, isD_v, isD_nil, isD_agg, IA, WI]) ?_
  simp -implicitDefEqProofs only [go_sem, Nat.reduceAdd, Nat.reduceEqDiff, Nat.reduceLT, reduceIte, reduceCtorEq, Int.reduceLE, Int.reduceLT, Int.reduceEq, Int.reduceAdd, Int.reduceMul, Int.reduceSub, Nat.reduceMul, Nat.reduceSub, Nat.reducePow, Nat.reduceLeDiff, Int.reduceToNat, DD, x_app, x_ga0, x_gas, x_gan, Int.cast_ofNat_Int, eq_self, Int.zero_lt_one, Bool.not_false, Bool.not_true, beq_self_eq_true, WI, IA, NI, t1, t2, t3, t4, t5, wa, wb, w1, w2, w3, w4, fd, Int.toNat_natCast]
  refine callK_of false whole_Small.call (m2) rfl rfl (by simp [ownOK, own1, hd, fzH, fzArgs, fzCells, fz, IA, WI, U32]) (by simp [U32, isD_u32, isD_v, isD_nil, isD_agg, IA, WI]) ?_
  simp -implicitDefEqProofs only [go_sem, Nat.reduceAdd, Nat.reduceEqDiff, Nat.reduceLT, reduceIte, reduceCtorEq, Int.reduceLE, Int.reduceLT, Int.reduceEq, Int.reduceAdd, Int.reduceMul, Int.reduceSub, Nat.reduceMul, Nat.reduceSub, Nat.reducePow, Nat.reduceLeDiff, Int.reduceToNat, DD, x_app, x_ga0, x_gas, x_gan, Int.cast_ofNat_Int, eq_self, Int.zero_lt_one, Bool.not_false, Bool.not_true, beq_self_eq_true, WI, IA, NI, t1, t2, t3, t4, t5, wa, wb, w1, w2, w3, w4, fd, Int.toNat_natCast]
  refine callK_of false whole_Mul.call (s3) rfl rfl (by simp [ownOK, own1, hd, fzH, fzArgs, fzCells, fz, IA, WI, U32]) (by simp [U32, isD_u32, isD_v, isD_nil, isD_agg, IA, WI]) ?_
  simp -implicitDefEqProofs only [go_sem, Nat.reduceAdd, Nat.reduceEqDiff, Nat.reduceLT, reduceIte, reduceCtorEq, Int.reduceLE, Int.reduceLT, Int.reduceEq, Int.reduceAdd, Int.reduceMul, Int.reduceSub, Nat.reduceMul, Nat.reduceSub, Nat.reducePow, Nat.reduceLeDiff, Int.reduceToNat, DD, x_app, x_ga0, x_gas, x_gan, Int.cast_ofNat_Int, eq_self, Int.zero_lt_one, Bool.not_false, Bool.not_true, beq_self_eq_true, WI, IA, NI, t1, t2, t3, t4, t5, wa, wb, w1, w2, w3, w4, fd, Int.toNat_natCast]
  refine callK_of false whole_Small.call (m3) rfl rfl (by simp [ownOK, own1, hd, fzH, fzArgs, fzCells, fz, IA, WI, U32]) (by simp [U32, isD_u32, isD_v, isD_nil, isD_agg, IA, WI]) ?_
  simp -implicitDefEqProofs only [go_sem, Nat.reduceAdd, Nat.reduceEqDiff, Nat.reduceLT, reduceIte, reduceCtorEq, Int.reduceLE, Int.reduceLT, Int.reduceEq, Int.reduceAdd, Int.reduceMul, Int.reduceSub, Nat.reduceMul, Nat.reduceSub, Nat.reducePow, Nat.reduceLeDiff, Int.reduceToNat, DD, x_app, x_ga0, x_gas, x_gan, Int.cast_ofNat_Int, eq_self, Int.zero_lt_one, Bool.not_false, Bool.not_true, beq_self_eq_true, WI, IA, NI, t1, t2, t3, t4, t5, wa, wb, w1, w2, w3, w4, fd, Int.toNat_natCast]
  refine callK_of false whole_Shr.call (s4) rfl rfl (by simp [ownOK, own1, hd, fzH, fzArgs, fzCells, fz, IA, WI, U32]) (by simp [U32, isD_u32, isD_v, isD_nil, isD_agg, IA, WI]) ?_
  simp -implicitDefEqProofs only [go_sem, Nat.reduceAdd, Nat.reduceEqDiff, Nat.reduceLT, reduceIte, reduceCtorEq, Int.reduceLE, Int.reduceLT, Int.reduceEq, Int.reduceAdd, Int.reduceMul, Int.reduceSub, Nat.reduceMul, Nat.reduceSub, Nat.reducePow, Nat.reduceLeDiff, Int.reduceToNat, DD, x_app, x_ga0, x_gas, x_gan, Int.cast_ofNat_Int, eq_self, Int.zero_lt_one, Bool.not_false, Bool.not_true, beq_self_eq_true, WI, IA, NI, t1, t2, t3, t4, t5, wa, wb, w1, w2, w3, w4, fd, Int.toNat_natCast]
  refine callK_of false whole_Small.call (m4) rfl rfl (by simp [ownOK, own1, hd, fzH, fzArgs, fzCells, fz, IA, WI, U32]) (by simp [U32, isD_u32, isD_v, isD_nil, isD_agg, IA, WI]) ?_
  simp -implicitDefEqProofs only [go_sem, Nat.reduceAdd, Nat.reduceEqDiff, Nat.reduceLT, reduceIte, reduceCtorEq, Int.reduceLE, Int.reduceLT, Int.reduceEq, Int.reduceAdd, Int.reduceMul, Int.reduceSub, Nat.reduceMul, Nat.reduceSub, Nat.reducePow, Nat.reduceLeDiff, Int.reduceToNat, DD, x_app, x_ga0, x_gas, x_gan, Int.cast_ofNat_Int, eq_self, Int.zero_lt_one, Bool.not_false, Bool.not_true, beq_self_eq_true, WI, IA, NI, t1, t2, t3, t4, t5, wa, wb, w1, w2, w3, w4, fd, Int.toNat_natCast]
  refine callK_of false whole_Shl.call (s5) rfl rfl (by simp [ownOK, own1, hd, fzH, fzArgs, fzCells, fz, IA, WI, U32]) (by simp [U32, isD_u32, isD_v, isD_nil, isD_agg, IA, WI]) ?_
  simp -implicitDefEqProofs only [go_sem, Nat.reduceAdd, Nat.reduceEqDiff, Nat.reduceLT, reduceIte, reduceCtorEq, Int.reduceLE, Int.reduceLT, Int.reduceEq, Int.reduceAdd, Int.reduceMul, Int.reduceSub, Nat.reduceMul, Nat.reduceSub, Nat.reducePow, Nat.reduceLeDiff, Int.reduceToNat, DD, x_app, x_ga0, x_gas, x_gan, Int.cast_ofNat_Int, eq_self, Int.zero_lt_one, Bool.not_false, Bool.not_true, beq_self_eq_true, WI, IA, NI, t1, t2, t3, t4, t5, wa, wb, w1, w2, w3, w4, fd, Int.toNat_natCast]
  refine callK_of false whole_Small.call (m5) rfl rfl (by simp [ownOK, own1, hd, fzH, fzArgs, fzCells, fz, IA, WI, U32]) (by simp [U32, isD_u32, isD_v, isD_nil, isD_agg, IA, WI]) ?_
  simp -implicitDefEqProofs only [go_sem, Nat.reduceAdd, Nat.reduceEqDiff, Nat.reduceLT, reduceIte, reduceCtorEq, Int.reduceLE, Int.reduceLT, Int.reduceEq, Int.reduceAdd, Int.reduceMul, Int.reduceSub, Nat.reduceMul, Nat.reduceSub, Nat.reducePow, Nat.reduceLeDiff, Int.reduceToNat, DD, x_app, x_ga0, x_gas, x_gan, Int.cast_ofNat_Int, eq_self, Int.zero_lt_one, Bool.not_false, Bool.not_true, beq_self_eq_true, WI, IA, NI, t1, t2, t3, t4, t5, wa, wb, w1, w2, w3, w4, fd, Int.toNat_natCast]
end Go.Ab

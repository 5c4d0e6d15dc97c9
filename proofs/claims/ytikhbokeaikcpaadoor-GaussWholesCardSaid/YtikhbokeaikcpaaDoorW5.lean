/- Contracts of this seat's functions (of each call: what it answers), walked over the abstract machine, and the laws of numbers that they want. Conditions: those that each theorem states. -/
import Derived.Test.YtikhbokeaikcpaaDoorN22
set_option linter.unusedVariables false
set_option maxRecDepth 20000
set_option linter.unusedSimpArgs false
namespace Go.Ab
open Go.Proofs

theorem shr_pos {z : Int} {n : Bool} {l : List Nat} (k : Nat) (h : ¬ iv n l < 0) : iv n (lim (nv l / 2 ^ k)) = fq (iv n l) (2 ^ k) := by
  have e := Nat.div_add_mod (nv l) (2 ^ k)
  have hlt := Nat.mod_lt (nv l) (Nat.two_pow_pos k)
  have e2 : ((2 ^ k : Nat) : Int) = 2 ^ k := by simp
  have hp : (0 : Int) < 2 ^ k := by rw [← e2]; exact Int.natCast_pos.mpr (Nat.two_pow_pos k)
  rw [iv_lim]
  refine (fl_unique (r := ((nv l % 2 ^ k : Nat) : Int)) ?_ (.inl ⟨by omega, by omega⟩)).1
  have e3 : ((2 ^ k * (nv l / 2 ^ k) : Nat) : Int) = 2 ^ k * ((nv l / 2 ^ k : Nat) : Int) := by rw [Int.natCast_mul, e2]
  cases n with
  | false => simp only [iv, Bool.false_eq_true, if_false] at h ⊢; omega
  | true =>
    simp only [iv, if_true] at h ⊢
    have h0 : nv l = 0 := by omega
    rw [h0]; simp
theorem shr_neg {l : List Nat} (k : Nat) (h : nv l ≠ 0) : (nv l / 2 ^ k * 2 ^ k = nv l → iv true (lim (nv l / 2 ^ k)) = fq (iv true l) (2 ^ k)) ∧ (nv l / 2 ^ k * 2 ^ k ≠ nv l → iv true (lim (nv l / 2 ^ k)) - 1 = fq (iv true l) (2 ^ k)) := by
  have e := Nat.div_add_mod (nv l) (2 ^ k)
  have hlt := Nat.mod_lt (nv l) (Nat.two_pow_pos k)
  have e2 : ((2 ^ k : Nat) : Int) = 2 ^ k := by simp
  have e3 : ((2 ^ k * (nv l / 2 ^ k) : Nat) : Int) = 2 ^ k * ((nv l / 2 ^ k : Nat) : Int) := by rw [Int.natCast_mul, e2]
  rw [iv_lim, Nat.mul_comm]
  simp only [iv, if_true]
  constructor
  · intro q
    refine (fl_unique (r := 0) ?_ (.inl ⟨by omega, by rw [← e2]; exact Int.natCast_pos.mpr (Nat.two_pow_pos k)⟩)).1
    rw [Int.mul_neg, ← e3, q]; omega
  · intro q
    refine (fl_unique (r := 2 ^ k - ((nv l % 2 ^ k : Nat) : Int)) ?_ (.inl ⟨by omega, by omega⟩)).1
    rw [Int.mul_sub, Int.mul_neg, ← e3]; omega

theorem wshr_sat (n : Bool) (l : List Nat) (c : Int) (hl : Lm l) (hla : l.length ≤ 1099511000) : Sat CT false 70 [IA n l, I64 c] (WI (fq (iv n l) (2 ^ shN c))) := by
  refine sat_of whole_Shr.ok (by simp) ?_
  have DD := whole_Shr.dr
  simp only [drP, drPx, drPt, drR, drS, drT, bodyOf, Tryd.f70, Nat.reduceEqDiff, reduceIte, true_and, and_true] at DD
  have g2 := shN_le c
  have g3 := lim_nv_len (L := 1099511000) hl (by omega) (Nat.div_le_self (nv l) (2 ^ shN c))
  have h1 := shr_sat l c hl (by omega)
  have w1 := with_sat n (lim (nv l / 2 ^ shN c)) (Lm_lim _) (by omega)
  have n1 := norm_sat n l hl (by omega)
  by_cases hz : iv n l < 0
  · have hn : n = true := by
      cases n
      · unfold iv at hz; simp at hz; omega
      · rfl
    subst hn
    have h0 : nv l ≠ 0 := fun e => by unfold iv at hz; rw [e] at hz; simp at hz
    obtain ⟨s1, s2⟩ := shr_neg (shN c) h0
    have r1 : RI (WI (iv true (lim (nv l / 2 ^ shN c)))) (iv true (lim (nv l / 2 ^ shN c))) 1099511000 := RI_W (by rw [iv_len]; exact g3)
    have hT : (iv true (lim (nv l / 2 ^ shN c))).natAbs = nv l / 2 ^ shN c := iv_len
    have c0 := decide_eq_true hz
    have h2 := shl_sat (lim (iv true (lim (nv l / 2 ^ shN c))).natAbs) c (Lm_lim _) (by rw [hT]; omega)
    rw [nv_lim] at h2
    have g4 : (lim ((iv true (lim (nv l / 2 ^ shN c))).natAbs * 2 ^ shN c)).length ≤ 1099511000 + (shN c / 32 + 1) := lim_mul_len (by rw [hT]; exact g3) (lim_pow2 _)
    have c1 := cmp_sat (lim ((iv true (lim (nv l / 2 ^ shN c))).natAbs * 2 ^ shN c)) l (Lm_lim _) hl (by omega) (by omega)
    rw [nv_lim] at c1
    have o1 := wof_sat 1 (by omega) (by omega)
    have b1 := sub_r r1 (RI_W (z := 1) (L := 1) (lim_length_le (by decide))) (by omega) (by omega)
    by_cases he : nv l / 2 ^ shN c * 2 ^ shN c = nv l
    · have k1 : cmpN ((iv true (lim (nv l / 2 ^ shN c))).natAbs * 2 ^ shN c) (nv l) = 0 := cmpN_eq (by rw [hT]; exact he)
      rw [← s1 he]
      rw [k1] at c1
      simp -implicitDefEqProofs only [go_sem, Nat.reduceAdd, Nat.reduceEqDiff, Nat.reduceLT, reduceIte, reduceCtorEq, Int.reduceLE, Int.reduceLT, Int.reduceEq, Int.reduceAdd, Int.reduceMul, Int.reduceSub, Nat.reduceMul, Nat.reduceSub, Nat.reducePow, Nat.reduceLeDiff, Int.reduceToNat, Tryd.f70, DD, beq_self_eq_true, Bool.not_false, Bool.not_true, WI, IA, c0]
      refine callK_of false nat_Shr.call (h1) rfl rfl (by simp [ownOK, own1, hd, fzH, fzArgs, fzCells, fz, IA, WI, U32]) (by simp [U32, isD_u32, isD_v, isD_nil, isD_agg, IA, WI]) ?_
      simp -implicitDefEqProofs only [go_sem, Nat.reduceAdd, Nat.reduceEqDiff, Nat.reduceLT, reduceIte, reduceCtorEq, Int.reduceLE, Int.reduceLT, Int.reduceEq, Int.reduceAdd, Int.reduceMul, Int.reduceSub, Nat.reduceMul, Nat.reduceSub, Nat.reducePow, Nat.reduceLeDiff, Int.reduceToNat, DD, x_app, x_ga0, x_gas, x_gan, Int.cast_ofNat_Int, eq_self, Int.zero_lt_one, Bool.not_false, Bool.not_true, beq_self_eq_true, WI, IA, c0]
      refine callK_of false whole_with.call (w1) rfl rfl (by simp [ownOK, own1, hd, fzH, fzArgs, fzCells, fz, IA, WI, U32]) (by simp [U32, isD_u32, isD_v, isD_nil, isD_agg, IA, WI]) ?_
      simp -implicitDefEqProofs only [go_sem, Nat.reduceAdd, Nat.reduceEqDiff, Nat.reduceLT, reduceIte, reduceCtorEq, Int.reduceLE, Int.reduceLT, Int.reduceEq, Int.reduceAdd, Int.reduceMul, Int.reduceSub, Nat.reduceMul, Nat.reduceSub, Nat.reducePow, Nat.reduceLeDiff, Int.reduceToNat, DD, x_app, x_ga0, x_gas, x_gan, Int.cast_ofNat_Int, eq_self, Int.zero_lt_one, Bool.not_false, Bool.not_true, beq_self_eq_true, WI, IA, c0]
      refine callK_of false whole_Norm.call (n1) rfl rfl (by simp [ownOK, own1, hd, fzH, fzArgs, fzCells, fz, IA, WI, U32]) (by simp [U32, isD_u32, isD_v, isD_nil, isD_agg, IA, WI]) ?_
      simp -implicitDefEqProofs only [go_sem, Nat.reduceAdd, Nat.reduceEqDiff, Nat.reduceLT, reduceIte, reduceCtorEq, Int.reduceLE, Int.reduceLT, Int.reduceEq, Int.reduceAdd, Int.reduceMul, Int.reduceSub, Nat.reduceMul, Nat.reduceSub, Nat.reducePow, Nat.reduceLeDiff, Int.reduceToNat, DD, x_app, x_ga0, x_gas, x_gan, Int.cast_ofNat_Int, eq_self, Int.zero_lt_one, Bool.not_false, Bool.not_true, beq_self_eq_true, WI, IA, c0]
      refine callK_of false nat_Shl.call (h2) rfl rfl (by simp [ownOK, own1, hd, fzH, fzArgs, fzCells, fz, IA, WI, U32]) (by simp [U32, isD_u32, isD_v, isD_nil, isD_agg, IA, WI]) ?_
      simp -implicitDefEqProofs only [go_sem, Nat.reduceAdd, Nat.reduceEqDiff, Nat.reduceLT, reduceIte, reduceCtorEq, Int.reduceLE, Int.reduceLT, Int.reduceEq, Int.reduceAdd, Int.reduceMul, Int.reduceSub, Nat.reduceMul, Nat.reduceSub, Nat.reducePow, Nat.reduceLeDiff, Int.reduceToNat, DD, x_app, x_ga0, x_gas, x_gan, Int.cast_ofNat_Int, eq_self, Int.zero_lt_one, Bool.not_false, Bool.not_true, beq_self_eq_true, WI, IA, c0]
      refine callK_of false nat_Cmp.call (c1) rfl rfl (by simp [ownOK, own1, hd, fzH, fzArgs, fzCells, fz, IA, WI, U32]) (by simp [U32, isD_u32, isD_v, isD_nil, isD_agg, IA, WI]) ?_
      simp -implicitDefEqProofs only [go_sem, Nat.reduceAdd, Nat.reduceEqDiff, Nat.reduceLT, reduceIte, reduceCtorEq, Int.reduceLE, Int.reduceLT, Int.reduceEq, Int.reduceAdd, Int.reduceMul, Int.reduceSub, Nat.reduceMul, Nat.reduceSub, Nat.reducePow, Nat.reduceLeDiff, Int.reduceToNat, DD, x_app, x_ga0, x_gas, x_gan, Int.cast_ofNat_Int, eq_self, Int.zero_lt_one, Bool.not_false, Bool.not_true, beq_self_eq_true, WI, IA, c0]
    · have k1 : ¬ cmpN ((iv true (lim (nv l / 2 ^ shN c))).natAbs * 2 ^ shN c) (nv l) = 0 := by
        rw [hT]; unfold cmpN; (repeat' split) <;> omega
      rw [← s2 he]
      simp -implicitDefEqProofs only [go_sem, Nat.reduceAdd, Nat.reduceEqDiff, Nat.reduceLT, reduceIte, reduceCtorEq, Int.reduceLE, Int.reduceLT, Int.reduceEq, Int.reduceAdd, Int.reduceMul, Int.reduceSub, Nat.reduceMul, Nat.reduceSub, Nat.reducePow, Nat.reduceLeDiff, Int.reduceToNat, Tryd.f70, DD, beq_self_eq_true, Bool.not_false, Bool.not_true, WI, IA, c0, k1]
      refine callK_of false nat_Shr.call (h1) rfl rfl (by simp [ownOK, own1, hd, fzH, fzArgs, fzCells, fz, IA, WI, U32]) (by simp [U32, isD_u32, isD_v, isD_nil, isD_agg, IA, WI]) ?_
      simp -implicitDefEqProofs only [go_sem, Nat.reduceAdd, Nat.reduceEqDiff, Nat.reduceLT, reduceIte, reduceCtorEq, Int.reduceLE, Int.reduceLT, Int.reduceEq, Int.reduceAdd, Int.reduceMul, Int.reduceSub, Nat.reduceMul, Nat.reduceSub, Nat.reducePow, Nat.reduceLeDiff, Int.reduceToNat, DD, x_app, x_ga0, x_gas, x_gan, Int.cast_ofNat_Int, eq_self, Int.zero_lt_one, Bool.not_false, Bool.not_true, beq_self_eq_true, WI, IA, c0, k1]
      refine callK_of false whole_with.call (w1) rfl rfl (by simp [ownOK, own1, hd, fzH, fzArgs, fzCells, fz, IA, WI, U32]) (by simp [U32, isD_u32, isD_v, isD_nil, isD_agg, IA, WI]) ?_
      simp -implicitDefEqProofs only [go_sem, Nat.reduceAdd, Nat.reduceEqDiff, Nat.reduceLT, reduceIte, reduceCtorEq, Int.reduceLE, Int.reduceLT, Int.reduceEq, Int.reduceAdd, Int.reduceMul, Int.reduceSub, Nat.reduceMul, Nat.reduceSub, Nat.reducePow, Nat.reduceLeDiff, Int.reduceToNat, DD, x_app, x_ga0, x_gas, x_gan, Int.cast_ofNat_Int, eq_self, Int.zero_lt_one, Bool.not_false, Bool.not_true, beq_self_eq_true, WI, IA, c0, k1]
      refine callK_of false whole_Norm.call (n1) rfl rfl (by simp [ownOK, own1, hd, fzH, fzArgs, fzCells, fz, IA, WI, U32]) (by simp [U32, isD_u32, isD_v, isD_nil, isD_agg, IA, WI]) ?_
      simp -implicitDefEqProofs only [go_sem, Nat.reduceAdd, Nat.reduceEqDiff, Nat.reduceLT, reduceIte, reduceCtorEq, Int.reduceLE, Int.reduceLT, Int.reduceEq, Int.reduceAdd, Int.reduceMul, Int.reduceSub, Nat.reduceMul, Nat.reduceSub, Nat.reducePow, Nat.reduceLeDiff, Int.reduceToNat, DD, x_app, x_ga0, x_gas, x_gan, Int.cast_ofNat_Int, eq_self, Int.zero_lt_one, Bool.not_false, Bool.not_true, beq_self_eq_true, WI, IA, c0, k1]
      refine callK_of false nat_Shl.call (h2) rfl rfl (by simp [ownOK, own1, hd, fzH, fzArgs, fzCells, fz, IA, WI, U32]) (by simp [U32, isD_u32, isD_v, isD_nil, isD_agg, IA, WI]) ?_
      simp -implicitDefEqProofs only [go_sem, Nat.reduceAdd, Nat.reduceEqDiff, Nat.reduceLT, reduceIte, reduceCtorEq, Int.reduceLE, Int.reduceLT, Int.reduceEq, Int.reduceAdd, Int.reduceMul, Int.reduceSub, Nat.reduceMul, Nat.reduceSub, Nat.reducePow, Nat.reduceLeDiff, Int.reduceToNat, DD, x_app, x_ga0, x_gas, x_gan, Int.cast_ofNat_Int, eq_self, Int.zero_lt_one, Bool.not_false, Bool.not_true, beq_self_eq_true, WI, IA, c0, k1]
      refine callK_of false nat_Cmp.call (c1) rfl rfl (by simp [ownOK, own1, hd, fzH, fzArgs, fzCells, fz, IA, WI, U32]) (by simp [U32, isD_u32, isD_v, isD_nil, isD_agg, IA, WI]) ?_
      simp -implicitDefEqProofs only [go_sem, Nat.reduceAdd, Nat.reduceEqDiff, Nat.reduceLT, reduceIte, reduceCtorEq, Int.reduceLE, Int.reduceLT, Int.reduceEq, Int.reduceAdd, Int.reduceMul, Int.reduceSub, Nat.reduceMul, Nat.reduceSub, Nat.reducePow, Nat.reduceLeDiff, Int.reduceToNat, DD, x_app, x_ga0, x_gas, x_gan, Int.cast_ofNat_Int, eq_self, Int.zero_lt_one, Bool.not_false, Bool.not_true, beq_self_eq_true, WI, IA, c0, k1]
      refine callK_of false whole_Of.call (o1) rfl rfl (by simp [ownOK, own1, hd, fzH, fzArgs, fzCells, fz, IA, WI, U32]) (by simp [U32, isD_u32, isD_v, isD_nil, isD_agg, IA, WI]) ?_
      simp -implicitDefEqProofs only [go_sem, Nat.reduceAdd, Nat.reduceEqDiff, Nat.reduceLT, reduceIte, reduceCtorEq, Int.reduceLE, Int.reduceLT, Int.reduceEq, Int.reduceAdd, Int.reduceMul, Int.reduceSub, Nat.reduceMul, Nat.reduceSub, Nat.reducePow, Nat.reduceLeDiff, Int.reduceToNat, DD, x_app, x_ga0, x_gas, x_gan, Int.cast_ofNat_Int, eq_self, Int.zero_lt_one, Bool.not_false, Bool.not_true, beq_self_eq_true, WI, IA, c0, k1]
      refine callK_of false whole_Sub.call (b1) rfl rfl (by simp [ownOK, own1, hd, fzH, fzArgs, fzCells, fz, IA, WI, U32]) (by simp [U32, isD_u32, isD_v, isD_nil, isD_agg, IA, WI]) ?_
      simp -implicitDefEqProofs only [go_sem, Nat.reduceAdd, Nat.reduceEqDiff, Nat.reduceLT, reduceIte, reduceCtorEq, Int.reduceLE, Int.reduceLT, Int.reduceEq, Int.reduceAdd, Int.reduceMul, Int.reduceSub, Nat.reduceMul, Nat.reduceSub, Nat.reducePow, Nat.reduceLeDiff, Int.reduceToNat, DD, x_app, x_ga0, x_gas, x_gan, Int.cast_ofNat_Int, eq_self, Int.zero_lt_one, Bool.not_false, Bool.not_true, beq_self_eq_true, WI, IA, c0, k1]
  · have c0 := decide_eq_false hz
    rw [← shr_pos (z := 0) (shN c) hz]
    simp -implicitDefEqProofs only [go_sem, Nat.reduceAdd, Nat.reduceEqDiff, Nat.reduceLT, reduceIte, reduceCtorEq, Int.reduceLE, Int.reduceLT, Int.reduceEq, Int.reduceAdd, Int.reduceMul, Int.reduceSub, Nat.reduceMul, Nat.reduceSub, Nat.reducePow, Nat.reduceLeDiff, Int.reduceToNat, Tryd.f70, DD, beq_self_eq_true, Bool.not_false, Bool.not_true, WI, IA, c0]
    refine callK_of false nat_Shr.call (h1) rfl rfl (by simp [ownOK, own1, hd, fzH, fzArgs, fzCells, fz, IA, WI, U32]) (by simp [U32, isD_u32, isD_v, isD_nil, isD_agg, IA, WI]) ?_
    simp -implicitDefEqProofs only [go_sem, Nat.reduceAdd, Nat.reduceEqDiff, Nat.reduceLT, reduceIte, reduceCtorEq, Int.reduceLE, Int.reduceLT, Int.reduceEq, Int.reduceAdd, Int.reduceMul, Int.reduceSub, Nat.reduceMul, Nat.reduceSub, Nat.reducePow, Nat.reduceLeDiff, Int.reduceToNat, DD, x_app, x_ga0, x_gas, x_gan, Int.cast_ofNat_Int, eq_self, Int.zero_lt_one, Bool.not_false, Bool.not_true, beq_self_eq_true, WI, IA, c0]
    refine callK_of false whole_with.call (w1) rfl rfl (by simp [ownOK, own1, hd, fzH, fzArgs, fzCells, fz, IA, WI, U32]) (by simp [U32, isD_u32, isD_v, isD_nil, isD_agg, IA, WI]) ?_
    simp -implicitDefEqProofs only [go_sem, Nat.reduceAdd, Nat.reduceEqDiff, Nat.reduceLT, reduceIte, reduceCtorEq, Int.reduceLE, Int.reduceLT, Int.reduceEq, Int.reduceAdd, Int.reduceMul, Int.reduceSub, Nat.reduceMul, Nat.reduceSub, Nat.reducePow, Nat.reduceLeDiff, Int.reduceToNat, DD, x_app, x_ga0, x_gas, x_gan, Int.cast_ofNat_Int, eq_self, Int.zero_lt_one, Bool.not_false, Bool.not_true, beq_self_eq_true, WI, IA, c0]
    refine callK_of false whole_Norm.call (n1) rfl rfl (by simp [ownOK, own1, hd, fzH, fzArgs, fzCells, fz, IA, WI, U32]) (by simp [U32, isD_u32, isD_v, isD_nil, isD_agg, IA, WI]) ?_
    simp -implicitDefEqProofs only [go_sem, Nat.reduceAdd, Nat.reduceEqDiff, Nat.reduceLT, reduceIte, reduceCtorEq, Int.reduceLE, Int.reduceLT, Int.reduceEq, Int.reduceAdd, Int.reduceMul, Int.reduceSub, Nat.reduceMul, Nat.reduceSub, Nat.reducePow, Nat.reduceLeDiff, Int.reduceToNat, DD, x_app, x_ga0, x_gas, x_gan, Int.cast_ofNat_Int, eq_self, Int.zero_lt_one, Bool.not_false, Bool.not_true, beq_self_eq_true, WI, IA, c0]

theorem small_w {N : Nat} (h : N ≤ 9223372036854775808) (h0 : N ≠ 0) : IntKind.i64.wrap (IntKind.u64.wrap (0 - (N : Int))) = -(N : Int) := by
  rw [wrap_u64', IntKind.wrap_i64]; omega
theorem lim_small2 {N : Nat} (h : ¬ 2 < (lim N).length) : N < 18446744073709551616 := by
  have := nv_lt_of (Lm_lim N) (n := 2) (by omega)
  rw [nv_lim] at this
  exact this
theorem lim_big2 {N : Nat} (h : 2 < (lim N).length) : 18446744073709551616 ≤ N := by
  refine Nat.le_of_not_lt fun q => ?_
  have := lim_length_le (n := N) (k := 2) q
  omega
theorem wsmall_sat (n : Bool) (l : List Nat) (hl : Lm l) (hla : l.length ≤ 1099511000) (h : ¬ 2 < (lim (iv n l).natAbs).length) : Sat CT false 69 [IA n l] (if -9223372036854775808 ≤ iv n l ∧ iv n l ≤ 9223372036854775807 then .tup [I64 (iv n l), Bo true] else .tup [I64 0, Bo false]) := by
  refine sat_of whole_Small.ok (by simp) ?_
  have DD := whole_Small.dr
  simp only [drP, drPx, drPt, drR, drS, drT, bodyOf, Tryd.f69, Nat.reduceEqDiff, reduceIte, true_and, and_true] at DD
  have n1 := norm_sat n l hl (by omega)
  generalize iv n l = z at *
  obtain ⟨N, hN⟩ : ∃ N : Nat, N = z.natAbs := ⟨_, rfl⟩
  have hNW : WI z = .agg [Bo (decide (z < 0)), .sl (lim N).length (u32s (lim N))] := by rw [hN]; rfl
  rw [hNW] at n1
  rw [← hN] at h
  have c1 : ¬ (2 : Int) < ((lim N).length : Int) := by omega
  have hlt := lim_small2 h
  simp -implicitDefEqProofs only [go_sem, Nat.reduceAdd, Nat.reduceEqDiff, Nat.reduceLT, reduceIte, reduceCtorEq, Int.reduceLE, Int.reduceLT, Int.reduceEq, Int.reduceAdd, Int.reduceMul, Int.reduceSub, Nat.reduceMul, Nat.reduceSub, Nat.reducePow, Nat.reduceLeDiff, Int.reduceToNat, Tryd.f69, DD, beq_self_eq_true, Bool.not_false, Bool.not_true, WI, IA, c1]
  refine callK_of false whole_Norm.call (n1) rfl rfl (by simp [ownOK, own1, hd, fzH, fzArgs, fzCells, fz, IA, WI, U32]) (by simp [U32, isD_u32, isD_v, isD_nil, isD_agg, IA, WI]) ?_
  simp -implicitDefEqProofs only [go_sem, Nat.reduceAdd, Nat.reduceEqDiff, Nat.reduceLT, reduceIte, reduceCtorEq, Int.reduceLE, Int.reduceLT, Int.reduceEq, Int.reduceAdd, Int.reduceMul, Int.reduceSub, Nat.reduceMul, Nat.reduceSub, Nat.reducePow, Nat.reduceLeDiff, Int.reduceToNat, DD, x_app, x_ga0, x_gas, x_gan, Int.cast_ofNat_Int, eq_self, Int.zero_lt_one, Bool.not_false, Bool.not_true, beq_self_eq_true, WI, IA, c1]
  refine loop_of aW0_mono (fun m σ => ∃ sl i, σ = ⟨sl, [⟨[Bo (decide (z < 0)), .sl (lim N).length (u32s (lim N))], true, true⟩]⟩ ∧ m = (lim N).length - i ∧ i ≤ (lim N).length ∧
    look sl 1 = .ptr 0 0 ∧ look sl 4 = W64 (nv ((lim N).take i) : Nat) ∧ look sl 14 = .sl (lim N).length (u32s (lim N)) ∧ look sl 15 = I64 ((lim N).length : Nat) ∧ look sl 16 = I64 (i : Nat)) ?_ (n := (lim N).length)
    ⟨_, 0, rfl, rfl, by omega, by simp [x_look], by simp [x_look, nv], by simp [x_look], by simp [x_look], by simp [x_look]⟩
  rintro m _ ⟨sl, i, rfl, rfl, hi, j1, j4, j14, j15, j16⟩
  by_cases hlt2 : i < (lim N).length
  · have d1 : (i : Int) < ((lim N).length : Int) := by omega
    have d2 : (0 : Int) ≤ (i : Int) := by omega
    have d3 := getD_u32s hlt2
    have d4 := incI (j := i) (by omega)
    have d5 : IntKind.i64.wrap (32 * (i : Int)) = ((32 * i : Nat) : Int) := by rw [wrap_i64 (by omega) (by omega)]; omega
    have d6 : (0 : Int) ≤ ((32 * i : Nat) : Int) := by omega
    have d7 : min (32 * i) 64 = 32 * i := by omega
    have hx := Lm_getD (Lm_lim N) i
    have d8 : IntKind.u64.wrap (((lim N).getD i 0 : Nat) : Int) = (((lim N).getD i 0 : Nat) : Int) := wrap64n (by omega)
    have hts := nv_take_succ (lim N) i
    have hti : nv ((lim N).take i) < 4294967296 := by
      have := nv_lt_of (Lm_take (Lm_lim N) i) (n := 1) (by rw [List.length_take]; omega)
      rwa [Nat.pow_one] at this
    have h01 : i = 0 ∨ i = 1 := by omega
    have d9 : IntKind.u64.wrap ((((lim N).getD i 0 : Nat) : Int) * 2 ^ (32 * i)) = ((4294967296 ^ i * (lim N).getD i 0 : Nat) : Int) := by
      rcases h01 with rfl | rfl
      · rw [wrap_u64 (by omega) (by omega)]; omega
      · rw [wrap_u64 (by omega) (by omega)]; omega
    have d10 : bits .or .u64 ((nv ((lim N).take i) : Nat) : Int) ((4294967296 ^ i * (lim N).getD i 0 : Nat) : Int) = ((nv ((lim N).take (i + 1)) : Nat) : Int) := by
      rw [hts]
      rcases h01 with rfl | rfl
      · rw [or64 (by omega) (by omega)]
        simp [nv]
      · rw [or64 (by omega) (by omega), Nat.pow_one, or_hi hti]
    simp -implicitDefEqProofs only [go_sem, Nat.reduceAdd, Nat.reduceEqDiff, Nat.reduceLT, reduceIte, reduceCtorEq, Int.reduceLE, Int.reduceLT, Int.reduceEq, Int.reduceAdd, Int.reduceMul, Int.reduceSub, Nat.reduceMul, Nat.reduceSub, Nat.reducePow, Nat.reduceLeDiff, Int.reduceToNat, DD, j1, j4, j14, j15, j16, d1, d2, d3, d4, d5, d6, d7, d8, d9, d10, hlt2, Int.toNat_natCast]
    exact ⟨(lim N).length - (i + 1), by omega, _, i + 1, rfl, rfl, by omega, by simp [x_look, j1], by simp [x_look], by simp [x_look, j14], by simp [x_look, j15], by simp [x_look]⟩
  · have d1 : ¬ (i : Int) < ((lim N).length : Int) := by omega
    have hie : i = (lim N).length := by omega
    rw [nv_take_all (l := lim N) (by omega), nv_lim] at j4
    by_cases hz : z < 0
    · have c2 := decide_eq_true hz
      by_cases hf : -9223372036854775808 ≤ z
      · have c3 : (N : Int) ≤ 9223372036854775808 := by omega
        have c4 := small_w (N := N) (by omega) (by omega)
        rw [show -(N : Int) = z by omega] at c4
        rw [if_pos ⟨hf, by omega⟩]
        simp -implicitDefEqProofs only [go_sem, Nat.reduceAdd, Nat.reduceEqDiff, Nat.reduceLT, reduceIte, reduceCtorEq, Int.reduceLE, Int.reduceLT, Int.reduceEq, Int.reduceAdd, Int.reduceMul, Int.reduceSub, Nat.reduceMul, Nat.reduceSub, Nat.reducePow, Nat.reduceLeDiff, Int.reduceToNat, DD, j1, j4, j14, j15, j16, d1, c2, c3, c4, Bool.not_true, Bool.not_false]
      · have c3 : ¬ (N : Int) ≤ 9223372036854775808 := by omega
        rw [if_neg (by omega)]
        simp -implicitDefEqProofs only [go_sem, Nat.reduceAdd, Nat.reduceEqDiff, Nat.reduceLT, reduceIte, reduceCtorEq, Int.reduceLE, Int.reduceLT, Int.reduceEq, Int.reduceAdd, Int.reduceMul, Int.reduceSub, Nat.reduceMul, Nat.reduceSub, Nat.reducePow, Nat.reduceLeDiff, Int.reduceToNat, DD, j1, j4, j14, j15, j16, d1, c2, c3, Bool.not_true, Bool.not_false]
    · have c2 := decide_eq_false hz
      by_cases hf : z ≤ 9223372036854775807
      · have c3 : (N : Int) ≤ 9223372036854775807 := by omega
        have c4 : IntKind.i64.wrap (N : Int) = z := by rw [wrap_i64 (by omega) (by omega)]; omega
        rw [if_pos ⟨by omega, hf⟩]
        simp -implicitDefEqProofs only [go_sem, Nat.reduceAdd, Nat.reduceEqDiff, Nat.reduceLT, reduceIte, reduceCtorEq, Int.reduceLE, Int.reduceLT, Int.reduceEq, Int.reduceAdd, Int.reduceMul, Int.reduceSub, Nat.reduceMul, Nat.reduceSub, Nat.reducePow, Nat.reduceLeDiff, Int.reduceToNat, DD, j1, j4, j14, j15, j16, d1, c2, c3, c4, Bool.not_true, Bool.not_false]
      · have c3 : ¬ (N : Int) ≤ 9223372036854775807 := by omega
        rw [if_neg (by omega)]
        simp -implicitDefEqProofs only [go_sem, Nat.reduceAdd, Nat.reduceEqDiff, Nat.reduceLT, reduceIte, reduceCtorEq, Int.reduceLE, Int.reduceLT, Int.reduceEq, Int.reduceAdd, Int.reduceMul, Int.reduceSub, Nat.reduceMul, Nat.reduceSub, Nat.reducePow, Nat.reduceLeDiff, Int.reduceToNat, DD, j1, j4, j14, j15, j16, d1, c2, c3, Bool.not_true, Bool.not_false]

theorem wsmall_yes (n : Bool) (l : List Nat) (hl : Lm l) (hla : l.length ≤ 1099511000) (h : -9223372036854775808 ≤ iv n l ∧ iv n l ≤ 9223372036854775807) : Sat CT false 69 [IA n l] (.tup [I64 (iv n l), Bo true]) := by
  have hb : ¬ 2 < (lim (iv n l).natAbs).length := fun q => by have := lim_big2 q; omega
  have := wsmall_sat n l hl hla hb
  rwa [if_pos h] at this
end Go.Ab

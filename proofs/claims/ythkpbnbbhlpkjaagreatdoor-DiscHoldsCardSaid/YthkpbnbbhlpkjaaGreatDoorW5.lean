/- Contracts of this seat's functions (of each call: what it answers), walked over the abstract machine, and the laws of numbers that they want. Conditions: those that each theorem states. -/
import Derived.Test.YthkpbnbbhlpkjaaGreatDoorN22
set_option linter.unusedVariables false
set_option maxRecDepth 20000
set_option linter.unusedSimpArgs false
namespace Go.Ab
open Go.Proofs

theorem shr_pos {z : Int} {n : Bool} {l : List Nat} (k : Nat) (h : ¬ iv n l < 0) : iv n (lim (nv l / 2 ^ k)) = fq (iv n l) (2 ^ k) := by
  have e := Nat.div_add_mod (nv l) (2 ^ k)
  have hlt := Nat.mod_lt (nv l) (Nat.two_pow_pos k)
  have e2 : ((2 ^ k : Nat) : Int) = 2 ^ k := by simp
  have hp : (0 : Int) < 2 ^ k := by rw [← e2]; exact Int.natCast_pos.mpr (Nat.two_pow_pos k)
  rw [iv_lim]
  refine (fl_unique (r := ((nv l % 2 ^ k : Nat) : Int)) ?_ (.inl ⟨by omega, by omega⟩)).1
  have e3 : ((2 ^ k * (nv l / 2 ^ k) : Nat) : Int) = 2 ^ k * ((nv l / 2 ^ k : Nat) : Int) := by rw [Int.natCast_mul, e2]
  cases n with
  | false => simp only [iv, Bool.false_eq_true, if_false] at h ⊢; omega
  | true =>
    simp only [iv, if_true] at h ⊢
    have h0 : nv l = 0 := by omega
    rw [h0]; simp
theorem shr_neg {l : List Nat} (k : Nat) (h : nv l ≠ 0) : (nv l / 2 ^ k * 2 ^ k = nv l → iv true (lim (nv l / 2 ^ k)) = fq (iv true l) (2 ^ k)) ∧ (nv l / 2 ^ k * 2 ^ k ≠ nv l → iv true (lim (nv l / 2 ^ k)) - 1 = fq (iv true l) (2 ^ k)) := by
  have e := Nat.div_add_mod (nv l) (2 ^ k)
  have hlt := Nat.mod_lt (nv l) (Nat.two_pow_pos k)
  have e2 : ((2 ^ k : Nat) : Int) = 2 ^ k := by simp
  have e3 : ((2 ^ k * (nv l / 2 ^ k) : Nat) : Int) = 2 ^ k * ((nv l / 2 ^ k : Nat) : Int) := by rw [Int.natCast_mul, e2]
  rw [iv_lim, Nat.mul_comm]
  simp only [iv, if_true]
  constructor
  · intro q
    refine (fl_unique (r := 0) ?_ (.inl ⟨by omega, by rw [← e2]; exact Int.natCast_pos.mpr (Nat.two_pow_pos k)⟩)).1
    rw [Int.mul_neg, ← e3, q]; omega
  · intro q
    refine (fl_unique (r := 2 ^ k - ((nv l % 2 ^ k : Nat) : Int)) ?_ (.inl ⟨by omega, by omega⟩)).1
    rw [Int.mul_sub, Int.mul_neg, ← e3]; omega

theorem rshrint_sat (n : Bool) (l : List Nat) (c : Int) (hl : Lm l) (hla : l.length ≤ 1099511000) : Sat CT false 175 [IA n l, I64 c] (WI (fq (iv n l) (2 ^ shN c))) := by
  refine sat_of annulusref1_ShrInt.ok (by simp) ?_
  have DD := annulusref1_ShrInt.dr
  simp only [drP, drPx, drPt, drR, drS, drT, bodyOf, Tryz.f175, Nat.reduceEqDiff, reduceIte, true_and, and_true] at DD
  have g2 := shN_le c
  have g := lim_pow2 (shN c)
  have h1 := rshl_satT [1] c Lm1 (by simp)
  rw [nv1, Nat.one_mul] at h1
  have hne : nv (lim (2 ^ shN c)) ≠ 0 := by rw [nv_lim]; exact Nat.ne_of_gt (Nat.two_pow_pos _)
  have d := rdivint_ok n false l (lim (2 ^ shN c)) hl (Lm_lim _) (by omega) (by omega) hne
  have e : iv false (lim (2 ^ shN c)) = 2 ^ shN c := by rw [iv_lim]; simp
  rw [e] at d
  simp -implicitDefEqProofs only [go_sem, Nat.reduceAdd, Nat.reduceEqDiff, Nat.reduceLT, reduceIte, reduceCtorEq, Int.reduceLE, Int.reduceLT, Int.reduceEq, Int.reduceAdd, Int.reduceMul, Int.reduceSub, Nat.reduceMul, Nat.reduceSub, Nat.reducePow, Nat.reduceLeDiff, Int.reduceToNat, Tryz.f175, DD, beq_self_eq_true, Bool.not_false, Bool.not_true, WI, IA]
  refine callK_of true annulusref1_Shl.call (h1) rfl rfl (by simp [ownOK, own1, hd, fzH, fzArgs, fzCells, fz, IA, WI, U32]) (by simp [U32, isD_u32, isD_v, isD_nil, isD_agg, IA, WI]) ?_
  simp -implicitDefEqProofs only [go_sem, Nat.reduceAdd, Nat.reduceEqDiff, Nat.reduceLT, reduceIte, reduceCtorEq, Int.reduceLE, Int.reduceLT, Int.reduceEq, Int.reduceAdd, Int.reduceMul, Int.reduceSub, Nat.reduceMul, Nat.reduceSub, Nat.reducePow, Nat.reduceLeDiff, Int.reduceToNat, DD, x_app, x_ga0, x_gas, x_gan, Int.cast_ofNat_Int, eq_self, Int.zero_lt_one, Bool.not_false, Bool.not_true, beq_self_eq_true, WI, IA]
  refine callK_of false annulusref1_DivInt.call (d) rfl rfl (by simp [ownOK, own1, hd, fzH, fzArgs, fzCells, fz, IA, WI, U32]) (by simp [U32, isD_u32, isD_v, isD_nil, isD_agg, IA, WI]) ?_
  simp -implicitDefEqProofs only [go_sem, Nat.reduceAdd, Nat.reduceEqDiff, Nat.reduceLT, reduceIte, reduceCtorEq, Int.reduceLE, Int.reduceLT, Int.reduceEq, Int.reduceAdd, Int.reduceMul, Int.reduceSub, Nat.reduceMul, Nat.reduceSub, Nat.reducePow, Nat.reduceLeDiff, Int.reduceToNat, DD, x_app, x_ga0, x_gas, x_gan, Int.cast_ofNat_Int, eq_self, Int.zero_lt_one, Bool.not_false, Bool.not_true, beq_self_eq_true, WI, IA]
theorem small_w {N : Nat} (h : N ≤ 9223372036854775808) (h0 : N ≠ 0) : IntKind.i64.wrap (IntKind.u64.wrap (0 - (N : Int))) = -(N : Int) := by
  rw [wrap_u64', IntKind.wrap_i64]; omega
theorem or_lo {x : Nat} : (0 : Nat) ||| x = x := Nat.zero_or x
theorem lim_small2 {N : Nat} (h : ¬ 2 < (lim N).length) : N < 18446744073709551616 := by
  have := nv_lt_of (Lm_lim N) (n := 2) (by omega)
  rw [nv_lim] at this
  exact this
theorem lim_big2 {N : Nat} (h : 2 < (lim N).length) : 18446744073709551616 ≤ N := by
  refine Nat.le_of_not_lt fun q => ?_
  have := lim_length_le (n := N) (k := 2) q
  omega
theorem getD_two {N : Nat} (h : N < 18446744073709551616) : N = (lim N).getD 0 0 + 4294967296 * (lim N).getD 1 0 := by
  have h1 := nv_take_all (l := lim N) (n := 2) (lim_length_le (k := 2) h)
  rw [nv_take_succ, nv_take_succ, nv_lim] at h1
  simp only [List.take_zero, nv, Nat.pow_zero, Nat.pow_one, Nat.one_mul, Nat.zero_add] at h1
  omega
end Go.Ab

/- Contracts of this seat's functions (of each call: what it answers), walked over the abstract machine, and the laws of numbers that they want. Conditions: those that each theorem states. -/
import Derived.Test.YtchgjgffikdcnaaN13
set_option linter.unusedVariables false
set_option maxRecDepth 20000
set_option linter.unusedSimpArgs false
namespace Go.Ab
open Go.Proofs

theorem div_zero (a b : List Nat) (ha : Lm a) (hb : Lm b) (hla : a.length < 1099511627) (hlb : b.length < 1099511627) (hb0 : nv b = 0) : Sat CT false 47 [U32 a, U32 b] (.tup [.sl 0 [], .sl 0 [], Bo false]) := by
  refine sat_of nat_Div.ok (by simp) ?_
  have DD := nat_Div.dr
  simp only [drP, drPx, drR, drS, bodyOf, Try.f47, Nat.reduceEqDiff, reduceIte, true_and, and_true] at DD
  simp -implicitDefEqProofs only [go_sem, Nat.reduceAdd, Nat.reduceEqDiff, Nat.reduceLT, reduceIte, reduceCtorEq, Int.reduceLE, Int.reduceLT, Int.reduceEq, Int.reduceAdd, Int.reduceMul, Int.reduceSub, Nat.reduceMul, Nat.reduceSub, Nat.reducePow, Nat.reduceLeDiff, Int.reduceToNat, Try.f47, DD]
  refine callK_of false nat_cut.call (cut_sat a (by omega)) rfl rfl (by simp [ownOK]) (by simp [U32, isD_u32, IsD.v]) ?_
  simp -implicitDefEqProofs only [go_sem, Nat.reduceAdd, Nat.reduceEqDiff, Nat.reduceLT, reduceIte, reduceCtorEq, Int.reduceLE, Int.reduceLT, Int.reduceEq, Int.reduceAdd, Int.reduceMul, Int.reduceSub, Nat.reduceMul, Nat.reduceSub, Nat.reducePow, Nat.reduceLeDiff, Int.reduceToNat, DD]
  refine callK_of false nat_cut.call (cut_sat b (by omega)) rfl rfl (by simp [ownOK]) (by simp [U32, isD_u32, IsD.v]) ?_
  have f2 : (cutL b).length = 0 := by rw [cutL_lim hb, hb0, lim_zero]; rfl
  have c1 : (((cutL b).length : Nat) : Int) = 0 := by omega
  simp -implicitDefEqProofs only [go_sem, Nat.reduceAdd, Nat.reduceEqDiff, Nat.reduceLT, reduceIte, reduceCtorEq, Int.reduceLE, Int.reduceLT, Int.reduceEq, Int.reduceAdd, Int.reduceMul, Int.reduceSub, Nat.reduceMul, Nat.reduceSub, Nat.reducePow, Nat.reduceLeDiff, Int.reduceToNat, DD, c1]

theorem cmpN_nonneg {x y : Nat} : 0 ≤ cmpN x y ↔ y ≤ x := by
  have := cmpN_neg (x := x) (y := y)
  omega
theorem cmpN_posi {x y : Nat} : 0 < cmpN x y ↔ y < x := by
  unfold cmpN
  constructor
  · intro h
    by_cases q : x < y
    · rw [if_pos q] at h; omega
    · rw [if_neg q] at h
      by_cases p : y < x
      · exact p
      · rw [if_neg p] at h; omega
  · intro h; rw [if_neg (by omega), if_pos h]; decide
theorem lim_len_mono {x y : Nat} (h : x ≤ y) : (lim x).length ≤ (lim y).length := by
  refine Nat.le_of_not_lt fun q => ?_
  have := lim_lt q
  omega
theorem lim_add_len {x y L : Nat} (hx : (lim x).length ≤ L) (hy : (lim y).length ≤ L) : (lim (x + y)).length ≤ L + 1 := by
  have z1 := nv_lt_of (Lm_lim x) hx
  have z2 := nv_lt_of (Lm_lim y) hy
  rw [nv_lim] at z1 z2
  refine lim_length_le ?_
  rw [Nat.pow_succ]
  generalize 4294967296 ^ L = P at *
  omega
theorem lim_mul_len {x y L M : Nat} (hx : (lim x).length ≤ L) (hy : (lim y).length ≤ M) : (lim (x * y)).length ≤ L + M := by
  have z1 := nv_lt_of (Lm_lim x) hx
  have z2 := nv_lt_of (Lm_lim y) hy
  rw [nv_lim] at z1 z2
  refine lim_length_le ?_
  rw [Nat.pow_add]
  exact Nat.mul_lt_mul'' z1 z2
theorem lim_pow2 (k : Nat) : (lim (2 ^ k)).length ≤ k / 32 + 1 := by
  refine lim_length_le ?_
  have e : (4294967296 : Nat) ^ (k / 32 + 1) = 2 ^ (32 * (k / 32 + 1)) := by rw [Nat.pow_mul]
  rw [e]
  exact Nat.pow_lt_pow_right (by omega) (by omega)
theorem bl_nv_le {A : List Nat} (hA : Lm A) : bl (nv A) ≤ 32 * A.length := by
  refine bl_le_of ?_
  rw [Nat.pow_mul]
  exact nv_lt hA
theorem half_sq (a : Nat) : a < 2 ^ ((bl a + 1) / 2) * 2 ^ ((bl a + 1) / 2) := by
  rw [← Nat.pow_add]
  exact Nat.lt_of_lt_of_le (bl_lt a) (Nat.pow_le_pow_right (by omega) (by omega))

end Go.Ab

/- Contracts of this seat's functions (of each call: what it answers), walked over the abstract machine, and the laws of numbers that they want. Conditions: those that each theorem states. -/
import Derived.Test.YtikhbokeaikcpaaDoorW2
set_option linter.unusedVariables false
set_option maxRecDepth 20000
set_option linter.unusedSimpArgs false
namespace Go.Ab
open Go.Proofs

/-- the floor of a quotient, and the rest -/
def fq (z d : Int) : Int := if 0 < d then z / d else (-z) / (-d)
def fr (z d : Int) : Int := z - d * fq z d
theorem fl_unique {z d q r : Int} (h : z = d * q + r) (hr : (0 ≤ r ∧ r < d) ∨ (d < r ∧ r ≤ 0)) : q = fq z d ∧ r = fr z d := by
  have hq : q = fq z d := by
    unfold fq
    rcases hr with ⟨h1, h2⟩ | ⟨h1, h2⟩
    · rw [if_pos (by omega)]
      exact ((Int.ediv_emod_unique (by omega)).mpr ⟨by omega, h1, h2⟩).1.symm
    · rw [if_neg (by omega)]
      refine ((Int.ediv_emod_unique (a := -z) (b := -d) (r := -r) (by omega)).mpr ⟨?_, by omega, by omega⟩).1.symm
      rw [Int.neg_mul]; omega
  refine ⟨hq, ?_⟩
  unfold fr
  rw [← hq]; omega
/-! contracts over what reads as a number -/
section
variable {a b : AV} {x y : Int} {L M : Nat}
theorem add_r (ha : RI a x L) (hb : RI b y M) (hL : L < 1099511627) (hM : M < 1099511627) : Sat CT false 79 [a, b] (WI (x + y)) := by
  obtain ⟨n, l, rfl, hl, rfl, h1⟩ := ha; obtain ⟨m, k, rfl, hk, rfl, h2⟩ := hb; exact wadd_sat n m l k hl hk (by omega) (by omega)
theorem sub_r (ha : RI a x L) (hb : RI b y M) (hL : L < 1099511627) (hM : M < 1099511627) : Sat CT false 97 [a, b] (WI (x - y)) := by
  obtain ⟨n, l, rfl, hl, rfl, h1⟩ := ha; obtain ⟨m, k, rfl, hk, rfl, h2⟩ := hb; exact wsub_sat n m l k hl hk (by omega) (by omega)
end
theorem wof_sat (v : Int) (h1 : -9223372036854775808 ≤ v) (h2 : v ≤ 9223372036854775807) : Sat CT false 61 [I64 v] (WI v) := by
  refine sat_of whole_Of.ok (by simp) ?_
  have DD := whole_Of.dr
  simp only [drP, drPx, drPt, drR, drS, drT, bodyOf, Tryd.f61, Nat.reduceEqDiff, reduceIte, true_and, and_true] at DD
  obtain ⟨N, hN⟩ : ∃ N : Nat, N = v.natAbs := ⟨_, rfl⟩
  have hlm : Lm [N % 4294967296, N / 4294967296] := by intro x hx; simp at hx; omega
  have hnv : nv [N % 4294967296, N / 4294967296] = N := by simp only [nv]; omega
  have w4 := wrap32n N
  have w5 := fdiv32 N
  have w6 : IntKind.u32.wrap ((N / 4294967296 : Nat) : Int) = ((N / 4294967296 : Nat) : Int) := by rw [wrap_u32]; omega
  by_cases hv : v < 0
  · have e : iv true [N % 4294967296, N / 4294967296] = v := by unfold iv; rw [hnv, if_pos rfl]; omega
    have q := with_sat true [N % 4294967296, N / 4294967296] hlm (by simp)
    rw [e] at q
    have w1 : IntKind.u64.wrap v = v + 18446744073709551616 := by rw [wrap_u64']; omega
    have w2 : IntKind.u64.wrap (0 - (v + 18446744073709551616)) = (N : Int) := by rw [wrap_u64']; omega
    simp -implicitDefEqProofs only [go_sem, Nat.reduceAdd, Nat.reduceEqDiff, Nat.reduceLT, reduceIte, reduceCtorEq, Int.reduceLE, Int.reduceLT, Int.reduceEq, Int.reduceAdd, Int.reduceMul, Int.reduceSub, Nat.reduceMul, Nat.reduceSub, Nat.reducePow, Nat.reduceLeDiff, Int.reduceToNat, Tryd.f61, DD, beq_self_eq_true, Bool.not_false, Bool.not_true, WI, IA, hv, w1, w2, w4, w5, w6]
    refine callK_of false whole_with.call (q) rfl rfl (by simp [ownOK, own1, hd, fzH, fzArgs, fzCells, fz, IA, WI, U32]) (by simp [U32, isD_u32, isD_v, isD_nil, isD_agg, IA, WI]) ?_
    simp -implicitDefEqProofs only [go_sem, Nat.reduceAdd, Nat.reduceEqDiff, Nat.reduceLT, reduceIte, reduceCtorEq, Int.reduceLE, Int.reduceLT, Int.reduceEq, Int.reduceAdd, Int.reduceMul, Int.reduceSub, Nat.reduceMul, Nat.reduceSub, Nat.reducePow, Nat.reduceLeDiff, Int.reduceToNat, DD, x_app, x_ga0, x_gas, x_gan, Int.cast_ofNat_Int, eq_self, Int.zero_lt_one, Bool.not_false, Bool.not_true, beq_self_eq_true, WI, IA, hv, w1, w2, w4, w5, w6]
  · have e : iv false [N % 4294967296, N / 4294967296] = v := by unfold iv; rw [hnv, if_neg (by simp)]; omega
    have q := with_sat false [N % 4294967296, N / 4294967296] hlm (by simp)
    rw [e] at q
    have w1 : IntKind.u64.wrap v = (N : Int) := by rw [wrap_u64']; omega
    simp -implicitDefEqProofs only [go_sem, Nat.reduceAdd, Nat.reduceEqDiff, Nat.reduceLT, reduceIte, reduceCtorEq, Int.reduceLE, Int.reduceLT, Int.reduceEq, Int.reduceAdd, Int.reduceMul, Int.reduceSub, Nat.reduceMul, Nat.reduceSub, Nat.reducePow, Nat.reduceLeDiff, Int.reduceToNat, Tryd.f61, DD, beq_self_eq_true, Bool.not_false, Bool.not_true, WI, IA, hv, w1, w4, w5, w6]
    refine callK_of false whole_with.call (q) rfl rfl (by simp [ownOK, own1, hd, fzH, fzArgs, fzCells, fz, IA, WI, U32]) (by simp [U32, isD_u32, isD_v, isD_nil, isD_agg, IA, WI]) ?_
    simp -implicitDefEqProofs only [go_sem, Nat.reduceAdd, Nat.reduceEqDiff, Nat.reduceLT, reduceIte, reduceCtorEq, Int.reduceLE, Int.reduceLT, Int.reduceEq, Int.reduceAdd, Int.reduceMul, Int.reduceSub, Nat.reduceMul, Nat.reduceSub, Nat.reducePow, Nat.reduceLeDiff, Int.reduceToNat, DD, x_app, x_ga0, x_gas, x_gan, Int.cast_ofNat_Int, eq_self, Int.zero_lt_one, Bool.not_false, Bool.not_true, beq_self_eq_true, WI, IA, hv, w1, w4, w5, w6]
theorem rof_sat (v : Int) (h1 : -9223372036854775808 ≤ v) (h2 : v ≤ 9223372036854775807) : Sat CT false 58 [I64 v] (WI v) := by
  refine sat_of annulusref1_Of.ok (by simp) ?_
  have DD := annulusref1_Of.dr
  simp only [drP, drPx, drPt, drR, drS, drT, bodyOf, Tryd.f58, Nat.reduceEqDiff, reduceIte, true_and, and_true] at DD
  obtain ⟨N, hN⟩ : ∃ N : Nat, N = v.natAbs := ⟨_, rfl⟩
  have hlm : Lm [N % 4294967296, N / 4294967296] := by intro x hx; simp at hx; omega
  have hnv : nv [N % 4294967296, N / 4294967296] = N := by simp only [nv]; omega
  have w4 := wrap32n N
  have w5 := fdiv32 N
  have w6 : IntKind.u32.wrap ((N / 4294967296 : Nat) : Int) = ((N / 4294967296 : Nat) : Int) := by rw [wrap_u32]; omega
  by_cases hv : v < 0
  · have e : iv true [N % 4294967296, N / 4294967296] = v := by unfold iv; rw [hnv, if_pos rfl]; omega
    have q := rnorm_sat true [N % 4294967296, N / 4294967296] hlm (by simp)
    rw [e] at q
    have w1 : IntKind.u64.wrap v = v + 18446744073709551616 := by rw [wrap_u64']; omega
    have w2 : IntKind.u64.wrap (0 - (v + 18446744073709551616)) = (N : Int) := by rw [wrap_u64']; omega
    simp -implicitDefEqProofs only [go_sem, Nat.reduceAdd, Nat.reduceEqDiff, Nat.reduceLT, reduceIte, reduceCtorEq, Int.reduceLE, Int.reduceLT, Int.reduceEq, Int.reduceAdd, Int.reduceMul, Int.reduceSub, Nat.reduceMul, Nat.reduceSub, Nat.reducePow, Nat.reduceLeDiff, Int.reduceToNat, Tryd.f58, DD, beq_self_eq_true, Bool.not_false, Bool.not_true, WI, IA, hv, w1, w2, w4, w5, w6]
    refine callK_of false annulusref1_Norm.call (q) rfl rfl (by simp [ownOK, own1, hd, fzH, fzArgs, fzCells, fz, IA, WI, U32]) (by simp [U32, isD_u32, isD_v, isD_nil, isD_agg, IA, WI]) ?_
    simp -implicitDefEqProofs only [go_sem, Nat.reduceAdd, Nat.reduceEqDiff, Nat.reduceLT, reduceIte, reduceCtorEq, Int.reduceLE, Int.reduceLT, Int.reduceEq, Int.reduceAdd, Int.reduceMul, Int.reduceSub, Nat.reduceMul, Nat.reduceSub, Nat.reducePow, Nat.reduceLeDiff, Int.reduceToNat, DD, x_app, x_ga0, x_gas, x_gan, Int.cast_ofNat_Int, eq_self, Int.zero_lt_one, Bool.not_false, Bool.not_true, beq_self_eq_true, WI, IA, hv, w1, w2, w4, w5, w6]
  · have e : iv false [N % 4294967296, N / 4294967296] = v := by unfold iv; rw [hnv, if_neg (by simp)]; omega
    have q := rnorm_sat false [N % 4294967296, N / 4294967296] hlm (by simp)
    rw [e] at q
    have w1 : IntKind.u64.wrap v = (N : Int) := by rw [wrap_u64']; omega
    simp -implicitDefEqProofs only [go_sem, Nat.reduceAdd, Nat.reduceEqDiff, Nat.reduceLT, reduceIte, reduceCtorEq, Int.reduceLE, Int.reduceLT, Int.reduceEq, Int.reduceAdd, Int.reduceMul, Int.reduceSub, Nat.reduceMul, Nat.reduceSub, Nat.reducePow, Nat.reduceLeDiff, Int.reduceToNat, Tryd.f58, DD, beq_self_eq_true, Bool.not_false, Bool.not_true, WI, IA, hv, w1, w4, w5, w6]
    refine callK_of false annulusref1_Norm.call (q) rfl rfl (by simp [ownOK, own1, hd, fzH, fzArgs, fzCells, fz, IA, WI, U32]) (by simp [U32, isD_u32, isD_v, isD_nil, isD_agg, IA, WI]) ?_
    simp -implicitDefEqProofs only [go_sem, Nat.reduceAdd, Nat.reduceEqDiff, Nat.reduceLT, reduceIte, reduceCtorEq, Int.reduceLE, Int.reduceLT, Int.reduceEq, Int.reduceAdd, Int.reduceMul, Int.reduceSub, Nat.reduceMul, Nat.reduceSub, Nat.reducePow, Nat.reduceLeDiff, Int.reduceToNat, DD, x_app, x_ga0, x_gas, x_gan, Int.cast_ofNat_Int, eq_self, Int.zero_lt_one, Bool.not_false, Bool.not_true, beq_self_eq_true, WI, IA, hv, w1, w4, w5, w6]
theorem iv_shl (n : Bool) (l : List Nat) (k : Nat) : iv n (lim (nv l * 2 ^ k)) = iv n l * 2 ^ k := by
  rw [iv_lim]; unfold iv
  have e : ((nv l * 2 ^ k : Nat) : Int) = (nv l : Int) * 2 ^ k := by simp
  rw [e]
  cases n <;> simp [Int.neg_mul]
end Go.Ab

/- Contracts of this seat's functions (of each call: what it answers), walked over the abstract machine, and the laws of numbers that they want. Conditions: those that each theorem states. -/
import Derived.Test.YtchgjgffikdcnaaW5
set_option linter.unusedVariables false
set_option maxRecDepth 20000
set_option linter.unusedSimpArgs false
namespace Go.Ab
open Go.Proofs

section
variable {a b : AV} {x y : Int} {L M : Nat}
theorem nv_zero {m : Bool} {k : List Nat} (h : iv m k = 0) : nv k = 0 := by rw [← abs_iv m k, h]; rfl
theorem div_r (ha : RI a x L) (hb : RI b y M) (hy : y ≠ 0) (hL : L ≤ 1099511620) (hM : M ≤ 1099511620) : Sat CT false 23 [a, b] (.tup [WI (fq x y), WI (fr x y), Bo true]) := by
  obtain ⟨n, l, rfl, hl, rfl, h1⟩ := ha; obtain ⟨m, k, rfl, hk, rfl, h2⟩ := hb
  exact wdiv_ok n m l k hl hk (by omega) (by omega) (fun e => hy (by unfold iv; cases m <;> simp [e]))
theorem div0_r (ha : RI a x L) (hb : RI b 0 M) (hL : L ≤ 1099511620) (hM : M ≤ 1099511620) : Sat CT false 23 [a, b] (.tup [NI, NI, Bo false]) := by
  obtain ⟨n, l, rfl, hl, rfl, h1⟩ := ha; obtain ⟨m, k, rfl, hk, h0, h2⟩ := hb
  exact wdiv_no n m l k hl hk (by omega) (by omega) (nv_zero h0)
theorem shl_r (ha : RI a x L) (c : Int) (hL : L ≤ 1099511000) : Sat CT false 18 [a, I64 c] (WI (x * 2 ^ shN c)) := by
  obtain ⟨n, l, rfl, hl, rfl, h1⟩ := ha; exact wshl_sat n l c hl (by omega)
theorem shr_r (ha : RI a x L) (c : Int) (hL : L ≤ 1099511000) : Sat CT false 15 [a, I64 c] (WI (fq x (2 ^ shN c))) := by
  obtain ⟨n, l, rfl, hl, rfl, h1⟩ := ha; exact wshr_sat n l c hl (by omega)
theorem small_y (ha : RI a x L) (hL : L ≤ 1099511000) (h1 : -9223372036854775808 ≤ x) (h2 : x ≤ 9223372036854775807) : Sat CT false 12 [a] (.tup [I64 x, Bo true]) := by
  obtain ⟨n, l, rfl, hl, rfl, h3⟩ := ha; exact wsmall_yes n l hl (by omega) ⟨h1, h2⟩
theorem small_n (ha : RI a x L) (hL : L ≤ 1099511000) (h : ¬ (-9223372036854775808 ≤ x ∧ x ≤ 9223372036854775807)) : Sat CT false 12 [a] (.tup [I64 0, Bo false]) := by
  obtain ⟨n, l, rfl, hl, rfl, h3⟩ := ha; exact wsmall_no n l hl (by omega) h
end
theorem ri1 {z : Int} (h : z.natAbs < 4294967296) : RI (WI z) z 1 := RI_W (lim_length_le (k := 1) (by rw [Nat.pow_one]; exact h))
theorem ri_small {z : Int} (h : z.natAbs < 18446744073709551616) : RI (WI z) z 2 := RI_W (lim_length_le (k := 2) h)
theorem ri0 : RI (IA false []) 0 0 := ⟨false, [], rfl, (fun x hx => by cases hx), by simp [iv, nv], Nat.le_refl _⟩
theorem Lz1 {z : Int} (h : z.natAbs < 18446744073709551616) : Lz z < 1099511627 := Nat.lt_of_le_of_lt (lim_length_le (k := 2) h) (by omega)
set_option maxRecDepth 100000 in
set_option maxHeartbeats 4000000 in
theorem wknown_sat : Sat CT false 10 [] (Bo true) := by
  refine sat_of annuluslaw2_known.ok (by simp) ?_
  have DD := annuluslaw2_known.dr
  simp only [drP, drPx, drR, drS, bodyOf, Try.f10, Nat.reduceEqDiff, reduceIte, true_and, and_true] at DD
  have r7 : RI (WI (-7)) (-7) 1 := ri1 (by decide)
  have k1 := wof_sat (-7) (by omega) (by omega)
  have k2 := wof_sat 2 (by omega) (by omega)
  have k3 := div_r r7 (ri1 (z := 2) (by decide)) (by omega) (by omega) (by omega)
  rw [show fq (-7) 2 = -4 by decide, show fr (-7) 2 = 1 by decide] at k3
  have k4 := div0_r r7 ri0 (by omega) (by omega)
  have k5 := small_y r7 (by omega) (by omega) (by omega)
  have k6 := shl_r r7 70 (by omega)
  rw [show (-7 * 2 ^ shN 70 : Int) = -8264141345021879123968 by decide] at k6
  have k7 := small_n (a := WI (-8264141345021879123968)) (L := 3) (RI_W (lim_length_le (k := 3) (by decide))) (by omega) (by omega)
  have k8 := rof_sat (-4) (by omega) (by omega)
  have k9 := same_w (x := -4) rfl (by have := Lz1 (z := -4) (by decide); omega)
  have k10 := rof_sat 1 (by omega) (by omega)
  have k11 := same_w (x := 1) rfl (by have := Lz1 (z := 1) (by decide); omega)
  have k12 := sign_r r7 (by omega)
  rw [show (-7 : Int).sign = -1 by decide] at k12
  have k13 := is_W (x := -7) (Lz1 (by decide))
  have k14 := wis_sat true [] (fun x hx => by cases hx) (by simp)
  rw [show isN true [] = false from rfl] at k14
  have k15 := cmp_r r7 (ri1 (z := -4) (by decide)) (by omega) (by omega)
  rw [show (-7 - -4 : Int).sign = -1 by decide] at k15
  have k16 := shr_r r7 1 (by omega)
  rw [show fq (-7) (2 ^ shN 1) = -4 by decide] at k16
  simp -implicitDefEqProofs only [go_sem, Nat.reduceAdd, Nat.reduceEqDiff, Nat.reduceLT, reduceIte, reduceCtorEq, Int.reduceLE, Int.reduceLT, Int.reduceEq, Int.reduceAdd, Int.reduceMul, Int.reduceSub, Nat.reduceMul, Nat.reduceSub, Nat.reducePow, Nat.reduceLeDiff, Int.reduceToNat, Try.f10, DD, beq_self_eq_true, Bool.not_false, Bool.not_true, WI, IA, NI]
  refine callK_of false whole_Of.call (k1) rfl rfl (by simp [ownOK, own1, hd, fzH, fzArgs, fzCells, fz, IA, WI, U32]) (by simp [U32, isD_u32, isD_v, isD_nil, isD_agg, IA, WI]) ?_
  simp -implicitDefEqProofs only [go_sem, Nat.reduceAdd, Nat.reduceEqDiff, Nat.reduceLT, reduceIte, reduceCtorEq, Int.reduceLE, Int.reduceLT, Int.reduceEq, Int.reduceAdd, Int.reduceMul, Int.reduceSub, Nat.reduceMul, Nat.reduceSub, Nat.reducePow, Nat.reduceLeDiff, Int.reduceToNat, DD, x_app, x_ga0, x_gas, x_gan, Int.cast_ofNat_Int, eq_self, Int.zero_lt_one, Bool.not_false, Bool.not_true, beq_self_eq_true, WI, IA, NI]
  refine callK_of false whole_Of.call (k2) rfl rfl (by simp [ownOK, own1, hd, fzH, fzArgs, fzCells, fz, IA, WI, U32]) (by simp [U32, isD_u32, isD_v, isD_nil, isD_agg, IA, WI]) ?_
  simp -implicitDefEqProofs only [go_sem, Nat.reduceAdd, Nat.reduceEqDiff, Nat.reduceLT, reduceIte, reduceCtorEq, Int.reduceLE, Int.reduceLT, Int.reduceEq, Int.reduceAdd, Int.reduceMul, Int.reduceSub, Nat.reduceMul, Nat.reduceSub, Nat.reducePow, Nat.reduceLeDiff, Int.reduceToNat, DD, x_app, x_ga0, x_gas, x_gan, Int.cast_ofNat_Int, eq_self, Int.zero_lt_one, Bool.not_false, Bool.not_true, beq_self_eq_true, WI, IA, NI]
  refine callK_of false whole_Div.call (k3) rfl rfl (by simp [ownOK, own1, hd, fzH, fzArgs, fzCells, fz, IA, WI, U32]) (by simp [U32, isD_u32, isD_v, isD_nil, isD_agg, IA, WI]) ?_
  simp -implicitDefEqProofs only [go_sem, Nat.reduceAdd, Nat.reduceEqDiff, Nat.reduceLT, reduceIte, reduceCtorEq, Int.reduceLE, Int.reduceLT, Int.reduceEq, Int.reduceAdd, Int.reduceMul, Int.reduceSub, Nat.reduceMul, Nat.reduceSub, Nat.reducePow, Nat.reduceLeDiff, Int.reduceToNat, DD, x_app, x_ga0, x_gas, x_gan, Int.cast_ofNat_Int, eq_self, Int.zero_lt_one, Bool.not_false, Bool.not_true, beq_self_eq_true, WI, IA, NI]
  refine callK_of false whole_Div.call (k4) rfl rfl (by simp [ownOK, own1, hd, fzH, fzArgs, fzCells, fz, IA, WI, U32]) (by simp [U32, isD_u32, isD_v, isD_nil, isD_agg, IA, WI]) ?_
  simp -implicitDefEqProofs only [go_sem, Nat.reduceAdd, Nat.reduceEqDiff, Nat.reduceLT, reduceIte, reduceCtorEq, Int.reduceLE, Int.reduceLT, Int.reduceEq, Int.reduceAdd, Int.reduceMul, Int.reduceSub, Nat.reduceMul, Nat.reduceSub, Nat.reducePow, Nat.reduceLeDiff, Int.reduceToNat, DD, x_app, x_ga0, x_gas, x_gan, Int.cast_ofNat_Int, eq_self, Int.zero_lt_one, Bool.not_false, Bool.not_true, beq_self_eq_true, WI, IA, NI]
  refine callK_of false whole_Small.call (k5) rfl rfl (by simp [ownOK, own1, hd, fzH, fzArgs, fzCells, fz, IA, WI, U32]) (by simp [U32, isD_u32, isD_v, isD_nil, isD_agg, IA, WI]) ?_
  simp -implicitDefEqProofs only [go_sem, Nat.reduceAdd, Nat.reduceEqDiff, Nat.reduceLT, reduceIte, reduceCtorEq, Int.reduceLE, Int.reduceLT, Int.reduceEq, Int.reduceAdd, Int.reduceMul, Int.reduceSub, Nat.reduceMul, Nat.reduceSub, Nat.reducePow, Nat.reduceLeDiff, Int.reduceToNat, DD, x_app, x_ga0, x_gas, x_gan, Int.cast_ofNat_Int, eq_self, Int.zero_lt_one, Bool.not_false, Bool.not_true, beq_self_eq_true, WI, IA, NI]
  refine callK_of false whole_Shl.call (k6) rfl rfl (by simp [ownOK, own1, hd, fzH, fzArgs, fzCells, fz, IA, WI, U32]) (by simp [U32, isD_u32, isD_v, isD_nil, isD_agg, IA, WI]) ?_
  simp -implicitDefEqProofs only [go_sem, Nat.reduceAdd, Nat.reduceEqDiff, Nat.reduceLT, reduceIte, reduceCtorEq, Int.reduceLE, Int.reduceLT, Int.reduceEq, Int.reduceAdd, Int.reduceMul, Int.reduceSub, Nat.reduceMul, Nat.reduceSub, Nat.reducePow, Nat.reduceLeDiff, Int.reduceToNat, DD, x_app, x_ga0, x_gas, x_gan, Int.cast_ofNat_Int, eq_self, Int.zero_lt_one, Bool.not_false, Bool.not_true, beq_self_eq_true, WI, IA, NI]
  refine callK_of false whole_Small.call (k7) rfl rfl (by simp [ownOK, own1, hd, fzH, fzArgs, fzCells, fz, IA, WI, U32]) (by simp [U32, isD_u32, isD_v, isD_nil, isD_agg, IA, WI]) ?_
  simp -implicitDefEqProofs only [go_sem, Nat.reduceAdd, Nat.reduceEqDiff, Nat.reduceLT, reduceIte, reduceCtorEq, Int.reduceLE, Int.reduceLT, Int.reduceEq, Int.reduceAdd, Int.reduceMul, Int.reduceSub, Nat.reduceMul, Nat.reduceSub, Nat.reducePow, Nat.reduceLeDiff, Int.reduceToNat, DD, x_app, x_ga0, x_gas, x_gan, Int.cast_ofNat_Int, eq_self, Int.zero_lt_one, Bool.not_false, Bool.not_true, beq_self_eq_true, WI, IA, NI]
  refine callK_of false annulusref1_Of.call (k8) rfl rfl (by simp [ownOK, own1, hd, fzH, fzArgs, fzCells, fz, IA, WI, U32]) (by simp [U32, isD_u32, isD_v, isD_nil, isD_agg, IA, WI]) ?_
  simp -implicitDefEqProofs only [go_sem, Nat.reduceAdd, Nat.reduceEqDiff, Nat.reduceLT, reduceIte, reduceCtorEq, Int.reduceLE, Int.reduceLT, Int.reduceEq, Int.reduceAdd, Int.reduceMul, Int.reduceSub, Nat.reduceMul, Nat.reduceSub, Nat.reducePow, Nat.reduceLeDiff, Int.reduceToNat, DD, x_app, x_ga0, x_gas, x_gan, Int.cast_ofNat_Int, eq_self, Int.zero_lt_one, Bool.not_false, Bool.not_true, beq_self_eq_true, WI, IA, NI]
  refine callK_of false annulusref1_SameInt.call (k9) rfl rfl (by simp [ownOK, own1, hd, fzH, fzArgs, fzCells, fz, IA, WI, U32]) (by simp [U32, isD_u32, isD_v, isD_nil, isD_agg, IA, WI]) ?_
  simp -implicitDefEqProofs only [go_sem, Nat.reduceAdd, Nat.reduceEqDiff, Nat.reduceLT, reduceIte, reduceCtorEq, Int.reduceLE, Int.reduceLT, Int.reduceEq, Int.reduceAdd, Int.reduceMul, Int.reduceSub, Nat.reduceMul, Nat.reduceSub, Nat.reducePow, Nat.reduceLeDiff, Int.reduceToNat, DD, x_app, x_ga0, x_gas, x_gan, Int.cast_ofNat_Int, eq_self, Int.zero_lt_one, Bool.not_false, Bool.not_true, beq_self_eq_true, WI, IA, NI]
  refine callK_of false annulusref1_Of.call (k10) rfl rfl (by simp [ownOK, own1, hd, fzH, fzArgs, fzCells, fz, IA, WI, U32]) (by simp [U32, isD_u32, isD_v, isD_nil, isD_agg, IA, WI]) ?_
  simp -implicitDefEqProofs only [go_sem, Nat.reduceAdd, Nat.reduceEqDiff, Nat.reduceLT, reduceIte, reduceCtorEq, Int.reduceLE, Int.reduceLT, Int.reduceEq, Int.reduceAdd, Int.reduceMul, Int.reduceSub, Nat.reduceMul, Nat.reduceSub, Nat.reducePow, Nat.reduceLeDiff, Int.reduceToNat, DD, x_app, x_ga0, x_gas, x_gan, Int.cast_ofNat_Int, eq_self, Int.zero_lt_one, Bool.not_false, Bool.not_true, beq_self_eq_true, WI, IA, NI]
  refine callK_of false annulusref1_SameInt.call (k11) rfl rfl (by simp [ownOK, own1, hd, fzH, fzArgs, fzCells, fz, IA, WI, U32]) (by simp [U32, isD_u32, isD_v, isD_nil, isD_agg, IA, WI]) ?_
  simp -implicitDefEqProofs only [go_sem, Nat.reduceAdd, Nat.reduceEqDiff, Nat.reduceLT, reduceIte, reduceCtorEq, Int.reduceLE, Int.reduceLT, Int.reduceEq, Int.reduceAdd, Int.reduceMul, Int.reduceSub, Nat.reduceMul, Nat.reduceSub, Nat.reducePow, Nat.reduceLeDiff, Int.reduceToNat, DD, x_app, x_ga0, x_gas, x_gan, Int.cast_ofNat_Int, eq_self, Int.zero_lt_one, Bool.not_false, Bool.not_true, beq_self_eq_true, WI, IA, NI]
  refine callK_of false whole_Sign.call (k12) rfl rfl (by simp [ownOK, own1, hd, fzH, fzArgs, fzCells, fz, IA, WI, U32]) (by simp [U32, isD_u32, isD_v, isD_nil, isD_agg, IA, WI]) ?_
  simp -implicitDefEqProofs only [go_sem, Nat.reduceAdd, Nat.reduceEqDiff, Nat.reduceLT, reduceIte, reduceCtorEq, Int.reduceLE, Int.reduceLT, Int.reduceEq, Int.reduceAdd, Int.reduceMul, Int.reduceSub, Nat.reduceMul, Nat.reduceSub, Nat.reducePow, Nat.reduceLeDiff, Int.reduceToNat, DD, x_app, x_ga0, x_gas, x_gan, Int.cast_ofNat_Int, eq_self, Int.zero_lt_one, Bool.not_false, Bool.not_true, beq_self_eq_true, WI, IA, NI]
  refine callK_of false whole_Is.call (k13) rfl rfl (by simp [ownOK, own1, hd, fzH, fzArgs, fzCells, fz, IA, WI, U32]) (by simp [U32, isD_u32, isD_v, isD_nil, isD_agg, IA, WI]) ?_
  simp -implicitDefEqProofs only [go_sem, Nat.reduceAdd, Nat.reduceEqDiff, Nat.reduceLT, reduceIte, reduceCtorEq, Int.reduceLE, Int.reduceLT, Int.reduceEq, Int.reduceAdd, Int.reduceMul, Int.reduceSub, Nat.reduceMul, Nat.reduceSub, Nat.reducePow, Nat.reduceLeDiff, Int.reduceToNat, DD, x_app, x_ga0, x_gas, x_gan, Int.cast_ofNat_Int, eq_self, Int.zero_lt_one, Bool.not_false, Bool.not_true, beq_self_eq_true, WI, IA, NI]
  refine callK_of false whole_Is.call (k14) rfl rfl (by simp [ownOK, own1, hd, fzH, fzArgs, fzCells, fz, IA, WI, U32]) (by simp [U32, isD_u32, isD_v, isD_nil, isD_agg, IA, WI]) ?_
  simp -implicitDefEqProofs only [go_sem, Nat.reduceAdd, Nat.reduceEqDiff, Nat.reduceLT, reduceIte, reduceCtorEq, Int.reduceLE, Int.reduceLT, Int.reduceEq, Int.reduceAdd, Int.reduceMul, Int.reduceSub, Nat.reduceMul, Nat.reduceSub, Nat.reducePow, Nat.reduceLeDiff, Int.reduceToNat, DD, x_app, x_ga0, x_gas, x_gan, Int.cast_ofNat_Int, eq_self, Int.zero_lt_one, Bool.not_false, Bool.not_true, beq_self_eq_true, WI, IA, NI]
  refine callK_of false whole_Cmp.call (k15) rfl rfl (by simp [ownOK, own1, hd, fzH, fzArgs, fzCells, fz, IA, WI, U32]) (by simp [U32, isD_u32, isD_v, isD_nil, isD_agg, IA, WI]) ?_
  simp -implicitDefEqProofs only [go_sem, Nat.reduceAdd, Nat.reduceEqDiff, Nat.reduceLT, reduceIte, reduceCtorEq, Int.reduceLE, Int.reduceLT, Int.reduceEq, Int.reduceAdd, Int.reduceMul, Int.reduceSub, Nat.reduceMul, Nat.reduceSub, Nat.reducePow, Nat.reduceLeDiff, Int.reduceToNat, DD, x_app, x_ga0, x_gas, x_gan, Int.cast_ofNat_Int, eq_self, Int.zero_lt_one, Bool.not_false, Bool.not_true, beq_self_eq_true, WI, IA, NI]
  refine callK_of false whole_Shr.call (k16) rfl rfl (by simp [ownOK, own1, hd, fzH, fzArgs, fzCells, fz, IA, WI, U32]) (by simp [U32, isD_u32, isD_v, isD_nil, isD_agg, IA, WI]) ?_
  simp -implicitDefEqProofs only [go_sem, Nat.reduceAdd, Nat.reduceEqDiff, Nat.reduceLT, reduceIte, reduceCtorEq, Int.reduceLE, Int.reduceLT, Int.reduceEq, Int.reduceAdd, Int.reduceMul, Int.reduceSub, Nat.reduceMul, Nat.reduceSub, Nat.reducePow, Nat.reduceLeDiff, Int.reduceToNat, DD, x_app, x_ga0, x_gas, x_gan, Int.cast_ofNat_Int, eq_self, Int.zero_lt_one, Bool.not_false, Bool.not_true, beq_self_eq_true, WI, IA, NI]
  refine callK_of false annulusref1_SameInt.call (k9) rfl rfl (by simp [ownOK, own1, hd, fzH, fzArgs, fzCells, fz, IA, WI, U32]) (by simp [U32, isD_u32, isD_v, isD_nil, isD_agg, IA, WI]) ?_
  simp -implicitDefEqProofs only [go_sem, Nat.reduceAdd, Nat.reduceEqDiff, Nat.reduceLT, reduceIte, reduceCtorEq, Int.reduceLE, Int.reduceLT, Int.reduceEq, Int.reduceAdd, Int.reduceMul, Int.reduceSub, Nat.reduceMul, Nat.reduceSub, Nat.reducePow, Nat.reduceLeDiff, Int.reduceToNat, DD, x_app, x_ga0, x_gas, x_gan, Int.cast_ofNat_Int, eq_self, Int.zero_lt_one, Bool.not_false, Bool.not_true, beq_self_eq_true, WI, IA, NI]
end Go.Ab

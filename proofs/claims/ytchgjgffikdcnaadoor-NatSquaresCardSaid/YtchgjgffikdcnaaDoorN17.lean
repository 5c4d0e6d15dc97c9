/- Contracts of this seat's functions (of each call: what it answers), walked over the abstract machine, and the laws of numbers that they want. Conditions: those that each theorem states. -/
import Derived.Test.YtchgjgffikdcnaaDoorN16
set_option linter.unusedVariables false
set_option linter.unusedSimpArgs false
namespace Go.Ab
open Go.Proofs

section
variable {C : Ctx} {N : Nat} {d : Bool}
theorem x_app {all : Array Oper} {l1 l2 : List Oper} {KS : AState → Prop} {σ : AState} : opsW C N d all (l1.append l2) KS σ = opsW C N d all l1 (fun σ => opsW C N d all l2 KS σ) σ := by
  show opsW C N d all (l1 ++ l2) KS σ = _
  induction l1 generalizing σ with
  | nil => rfl
  | cons o r ih => simp only [List.cons_append, opsW, ih]
theorem x_ga0 {α : Type} {x : α} {l m : List α} : ((x :: l).append m)[0]? = some x := rfl
theorem x_gas {α : Type} {x : α} {l m : List α} {n : Nat} : ((x :: l).append m)[n + 1]? = (l.append m)[n]? := rfl
theorem x_gan {α : Type} {m : List α} {n : Nat} : (([] : List α).append m)[n]? = m[n]? := rfl
end
theorem lim_small {n : Nat} (h0 : n ≠ 0) (h : n < 4294967296) : lim n = [n] := by
  rw [lim_pos h0, Nat.mod_eq_of_lt h, Nat.div_eq_of_lt h, lim_zero]
theorem Lm01 : Lm [0, 1] := by intro x hx; simp at hx; omega
theorem Lm5 : Lm [5] := by intro x hx; simp at hx; omega
theorem Lm1 : Lm [1] := by intro x hx; simp at hx; omega
theorem nv01 : nv [0, 1] = 4294967296 := rfl
theorem nv5 : nv [5] = 5 := rfl
theorem nv1 : nv [1] = 1 := rfl

set_option maxRecDepth 100000 in
theorem known_sat : Sat CT false 10 [] (Bo true) := by
  refine sat_of annuluslaw1_known.ok (by simp) ?_
  have DD := annuluslaw1_known.dr
  simp only [drP, drR, bodyOf, Tryd.f10, true_and, and_true] at DD
  have k1 := div_sat [0, 1] [5] Lm01 Lm5 (by simp) (by simp) (by rw [nv5]; omega)
  rw [nv01, nv5, show lim (4294967296 / 5) = [858993459] from lim_small (by omega) (by omega), show lim (4294967296 % 5) = [1] from lim_small (by omega) (by omega)] at k1
  have k2 := sub_ok [0, 1] [5] Lm01 Lm5 (by simp) (by simp) (by rw [nv5, nv01]; omega)
  rw [nv01, nv5, show lim (4294967296 - 5) = [4294967291] from lim_small (by omega) (by omega)] at k2
  have k3 := sub_no [5] [0, 1] Lm5 Lm01 (by simp) (by simp) (by rw [nv5, nv01]; omega)
  have k4 := div_zero [0, 1] [] Lm01 (by intro x hx; cases hx) (by simp) (by simp) rfl
  have k5 := is_sat [0, 1] (by simp)
  rw [show decide ((cutL [0, 1]).length = [0, 1].length) = true from rfl] at k5
  have k6 := is_sat [0] (by simp)
  rw [show decide ((cutL [0]).length = [0].length) = false from rfl] at k6
  have k7 := cmp_sat [0, 1] [5] Lm01 Lm5 (by simp) (by simp)
  rw [nv01, nv5, cmpN_gt (by omega)] at k7
  have k8 := bits_sat [0, 1] Lm01 (by simp)
  rw [nv01, show bl 4294967296 = 33 from bl_eq (by omega) (by omega) (by omega)] at k8
  have k9 := low_sat [0, 1] Lm01 (by simp)
  rw [nv01, show tz 4294967296 = 32 by simp [tz]] at k9
  have k10 := root_sat [0, 1] Lm01 (by simp)
  rw [nv01, ← isq_eq (a := 4294967296) (r := 65536) (by omega) (by omega), show lim 65536 = [65536] from lim_small (by omega) (by omega)] at k10
  have v0 : ∀ x : Nat, U32 [x] = .sl 1 [W32 (x : Int)] := fun _ => rfl
  rw [v0 858993459, v0 1] at k1
  rw [v0 4294967291] at k2
  rw [v0 65536] at k10
  simp only [go_sem, Nat.reduceAdd, Nat.reduceEqDiff, Nat.reduceLT, reduceIte, reduceCtorEq, Int.reduceLE, Int.reduceLT, Int.reduceEq, Int.reduceAdd, Int.reduceMul, Int.reduceSub, Nat.reduceMul, Nat.reduceSub, Nat.reducePow, Nat.reduceLeDiff, Int.reduceToNat, Tryd.f10, DD]
  refine callK_of false nat_Div.call k1 rfl rfl (by simp [ownOK, hd, fzH, fzArgs, fz]) (by simp [U32, isD_u32, isD_v]) ?_
  simp only [go_sem, Nat.reduceAdd, Nat.reduceEqDiff, Nat.reduceLT, reduceIte, reduceCtorEq, Int.reduceLE, Int.reduceLT, Int.reduceEq, Int.reduceAdd, Int.reduceMul, Int.reduceSub, Nat.reduceMul, Nat.reduceSub, Nat.reducePow, Nat.reduceLeDiff, Int.reduceToNat, DD]
  refine callK_of false nat_Sub.call k2 rfl rfl (by simp [ownOK, hd, fzH, fzArgs, fz]) (by simp [U32, isD_u32, isD_v]) ?_
  simp only [go_sem, Nat.reduceAdd, Nat.reduceEqDiff, Nat.reduceLT, reduceIte, reduceCtorEq, Int.reduceLE, Int.reduceLT, Int.reduceEq, Int.reduceAdd, Int.reduceMul, Int.reduceSub, Nat.reduceMul, Nat.reduceSub, Nat.reducePow, Nat.reduceLeDiff, Int.reduceToNat, DD]
  refine callK_of false nat_Sub.call k3 rfl rfl (by simp [ownOK, hd, fzH, fzArgs, fz]) (by simp [U32, isD_u32, isD_v]) ?_
  simp only [go_sem, Nat.reduceAdd, Nat.reduceEqDiff, Nat.reduceLT, reduceIte, reduceCtorEq, Int.reduceLE, Int.reduceLT, Int.reduceEq, Int.reduceAdd, Int.reduceMul, Int.reduceSub, Nat.reduceMul, Nat.reduceSub, Nat.reducePow, Nat.reduceLeDiff, Int.reduceToNat, DD]
  refine callK_of false nat_Div.call k4 rfl rfl (by simp [ownOK, hd, fzH, fzArgs, fz]) (by simp [U32, isD_u32, isD_v]) ?_
  simp only [go_sem, Nat.reduceAdd, Nat.reduceEqDiff, Nat.reduceLT, reduceIte, reduceCtorEq, Int.reduceLE, Int.reduceLT, Int.reduceEq, Int.reduceAdd, Int.reduceMul, Int.reduceSub, Nat.reduceMul, Nat.reduceSub, Nat.reducePow, Nat.reduceLeDiff, Int.reduceToNat, DD, x_app, x_ga0, x_gas, x_gan, Int.cast_ofNat_Int, eq_self, Int.zero_lt_one, Bool.not_false, Bool.not_true]
  refine callK_of false nat_Is.call k5 rfl rfl (by simp [ownOK, hd, fzH, fzArgs, fz]) (by simp [U32, isD_u32, isD_v]) ?_
  simp only [go_sem, Nat.reduceAdd, Nat.reduceEqDiff, Nat.reduceLT, reduceIte, reduceCtorEq, Int.reduceLE, Int.reduceLT, Int.reduceEq, Int.reduceAdd, Int.reduceMul, Int.reduceSub, Nat.reduceMul, Nat.reduceSub, Nat.reducePow, Nat.reduceLeDiff, Int.reduceToNat, DD, x_app, x_ga0, x_gas, x_gan, Int.cast_ofNat_Int, eq_self, Int.zero_lt_one, Bool.not_false, Bool.not_true]
  refine callK_of false nat_Is.call k6 rfl rfl (by simp [ownOK, hd, fzH, fzArgs, fz]) (by simp [U32, isD_u32, isD_v]) ?_
  simp only [go_sem, Nat.reduceAdd, Nat.reduceEqDiff, Nat.reduceLT, reduceIte, reduceCtorEq, Int.reduceLE, Int.reduceLT, Int.reduceEq, Int.reduceAdd, Int.reduceMul, Int.reduceSub, Nat.reduceMul, Nat.reduceSub, Nat.reducePow, Nat.reduceLeDiff, Int.reduceToNat, DD, x_app, x_ga0, x_gas, x_gan, Int.cast_ofNat_Int, eq_self, Int.zero_lt_one, Bool.not_false, Bool.not_true]
  refine callK_of false nat_Cmp.call k7 rfl rfl (by simp [ownOK, hd, fzH, fzArgs, fz]) (by simp [U32, isD_u32, isD_v]) ?_
  simp only [go_sem, Nat.reduceAdd, Nat.reduceEqDiff, Nat.reduceLT, reduceIte, reduceCtorEq, Int.reduceLE, Int.reduceLT, Int.reduceEq, Int.reduceAdd, Int.reduceMul, Int.reduceSub, Nat.reduceMul, Nat.reduceSub, Nat.reducePow, Nat.reduceLeDiff, Int.reduceToNat, DD, x_app, x_ga0, x_gas, x_gan, Int.cast_ofNat_Int, eq_self, Int.zero_lt_one, Bool.not_false, Bool.not_true]
  refine callK_of false nat_Bits.call k8 rfl rfl (by simp [ownOK, hd, fzH, fzArgs, fz]) (by simp [U32, isD_u32, isD_v]) ?_
  simp only [go_sem, Nat.reduceAdd, Nat.reduceEqDiff, Nat.reduceLT, reduceIte, reduceCtorEq, Int.reduceLE, Int.reduceLT, Int.reduceEq, Int.reduceAdd, Int.reduceMul, Int.reduceSub, Nat.reduceMul, Nat.reduceSub, Nat.reducePow, Nat.reduceLeDiff, Int.reduceToNat, DD, x_app, x_ga0, x_gas, x_gan, Int.cast_ofNat_Int, eq_self, Int.zero_lt_one, Bool.not_false, Bool.not_true]
  refine callK_of false nat_Low.call k9 rfl rfl (by simp [ownOK, hd, fzH, fzArgs, fz]) (by simp [U32, isD_u32, isD_v]) ?_
  simp only [go_sem, Nat.reduceAdd, Nat.reduceEqDiff, Nat.reduceLT, reduceIte, reduceCtorEq, Int.reduceLE, Int.reduceLT, Int.reduceEq, Int.reduceAdd, Int.reduceMul, Int.reduceSub, Nat.reduceMul, Nat.reduceSub, Nat.reducePow, Nat.reduceLeDiff, Int.reduceToNat, DD, x_app, x_ga0, x_gas, x_gan, Int.cast_ofNat_Int, eq_self, Int.zero_lt_one, Bool.not_false, Bool.not_true]
  refine callK_of false nat_Root.call k10 rfl rfl (by simp [ownOK, hd, fzH, fzArgs, fz]) (by simp [U32, isD_u32, isD_v]) ?_
  simp only [go_sem, Nat.reduceAdd, Nat.reduceEqDiff, Nat.reduceLT, reduceIte, reduceCtorEq, Int.reduceLE, Int.reduceLT, Int.reduceEq, Int.reduceAdd, Int.reduceMul, Int.reduceSub, Nat.reduceMul, Nat.reduceSub, Nat.reducePow, Nat.reduceLeDiff, Int.reduceToNat, DD, x_app, x_ga0, x_gas, x_gan, Int.cast_ofNat_Int, eq_self, Int.zero_lt_one, Bool.not_false, Bool.not_true]

theorem few_yes (a : List Nat) (h : a.length ≤ 24) : Sat CT false 11 [U32 a] (Bo true) := by
  refine sat_of annuluslaw1_few.ok (by simp) ?_
  have c : (a.length : Int) ≤ 24 := by omega
  simp only [go_sem, Nat.reduceAdd, Nat.reduceEqDiff, Nat.reduceLT, reduceIte, reduceCtorEq, Int.reduceLE, Int.reduceLT, Int.reduceEq, Int.reduceAdd, Int.reduceMul, Int.reduceSub, Nat.reduceMul, Nat.reduceSub, Nat.reducePow, Nat.reduceLeDiff, Int.reduceToNat, and_true, Tryd.f11, c]
theorem few_no (a : List Nat) (h : ¬ a.length ≤ 24) : Sat CT false 11 [U32 a] (Bo false) := by
  refine sat_of annuluslaw1_few.ok (by simp) ?_
  have c : ¬ (a.length : Int) ≤ 24 := by omega
  simp only [go_sem, Nat.reduceAdd, Nat.reduceEqDiff, Nat.reduceLT, reduceIte, reduceCtorEq, Int.reduceLE, Int.reduceLT, Int.reduceEq, Int.reduceAdd, Int.reduceMul, Int.reduceSub, Nat.reduceMul, Nat.reduceSub, Nat.reducePow, Nat.reduceLeDiff, Int.reduceToNat, and_true, Tryd.f11, c]
theorem same_yes (a b : List Nat) (h : a = b) (hla : a.length < 1099511627776) : Sat CT false 12 [U32 a, U32 b] (Bo true) := by
  have := same_sat a b hla (by rw [← h]; exact hla)
  rwa [decide_eq_true h] at this
theorem shN_of {k : Nat} (h : k ≤ 100000) : shN (k : Int) = k := by unfold shN; omega
theorem alow_sat (k : Nat) (hk : k + 1 ≤ 100000) : Sat CT false 28 [I64 ((k + 1 : Nat) : Int)] (U32 (lim (2 ^ k - 1))) := by
  refine sat_of annuluslaw1_low.ok (by simp) ?_
  have DD := annuluslaw1_low.dr
  simp only [drP, drR, bodyOf, Tryd.f28, true_and, and_true] at DD
  have w := decI (j := k) (by omega)
  have h1 := rshl_sat [1] (k : Int) Lm1 (by simp)
  rw [nv1, Nat.one_mul, shN_of (by omega)] at h1
  have hl := lim_pow2 k
  have hp := Nat.two_pow_pos k
  have h2 := rsub_ok (lim (2 ^ k)) [1] (Lm_lim _) Lm1 (by omega) (by simp) (by rw [nv_lim, nv1]; omega)
  rw [nv_lim, nv1] at h2
  simp only [go_sem, Nat.reduceAdd, Nat.reduceEqDiff, Nat.reduceLT, reduceIte, reduceCtorEq, Int.reduceLE, Int.reduceLT, Int.reduceEq, Int.reduceAdd, Int.reduceMul, Int.reduceSub, Nat.reduceMul, Nat.reduceSub, Nat.reducePow, Nat.reduceLeDiff, Int.reduceToNat, Tryd.f28, DD, w]
  refine callK_of false annulusref1_Shl.call h1 rfl rfl (by simp [ownOK, hd, fzH, fzArgs, fz]) (by simp [U32, isD_u32, isD_v]) ?_
  simp only [go_sem, Nat.reduceAdd, Nat.reduceEqDiff, Nat.reduceLT, reduceIte, reduceCtorEq, Int.reduceLE, Int.reduceLT, Int.reduceEq, Int.reduceAdd, Int.reduceMul, Int.reduceSub, Nat.reduceMul, Nat.reduceSub, Nat.reducePow, Nat.reduceLeDiff, Int.reduceToNat, DD]
  refine callK_of false annulusref1_Sub.call h2 rfl rfl (by simp [ownOK, hd, fzH, fzArgs, fz]) (by simp [U32, isD_u32, isD_v]) ?_
  simp only [go_sem, Nat.reduceAdd, Nat.reduceEqDiff, Nat.reduceLT, reduceIte, reduceCtorEq, Int.reduceLE, Int.reduceLT, Int.reduceEq, Int.reduceAdd, Int.reduceMul, Int.reduceSub, Nat.reduceMul, Nat.reduceSub, Nat.reducePow, Nat.reduceLeDiff, Int.reduceToNat, DD]
end Go.Ab

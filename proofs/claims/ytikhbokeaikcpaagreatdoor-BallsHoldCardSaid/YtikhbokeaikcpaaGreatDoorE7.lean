/- Contracts of this seat's functions (of each call: what it answers), walked over the abstract machine, and the laws of numbers that they want. Conditions: those that each theorem states. -/
import Derived.Test.YtikhbokeaikcpaaGreatDoorE3
set_option linter.unusedVariables false
set_option maxRecDepth 20000
set_option linter.unusedSimpArgs false
set_option linter.unusedSectionVars false
-- 
namespace Go.Ab
open Go.Proofs
open Cx (zero one)
attribute [-go_sem] appF newsF
variable {a b : AV} {z w : Cx} {B C n m : Nat} {cs ds : List AV} {f g : Po}
theorem rderiv_s (h : PB f B) (hs : Sp n f) (hB : B ≤ 19000) (hn : n ≤ 100000) : Sat CT false 57 [PA n f] (PA (dg (n - 1) (der f)) (der f)) := by
  refine sat_of annulusref11_Deriv.ok (by simp) ?_
  have DD := annulusref11_Deriv.dr
  simp only [drP, drPx, drPt, drR, drS, drT, bodyOf, Tryz.f57, Nat.reduceEqDiff, reduceIte, true_and, and_true] at DD
  have hL := pcl_len n f
  have hP := h.der hs (by omega)
  have hsp := hs.der'
  simp -implicitDefEqProofs only [go_sem, Nat.reduceAdd, Nat.reduceEqDiff, Nat.reduceLT, reduceIte, reduceCtorEq, Int.reduceLE, Int.reduceLT, Int.reduceEq, Int.reduceAdd, Int.reduceMul, Int.reduceSub, Nat.reduceMul, Nat.reduceSub, Nat.reducePow, Nat.reduceLeDiff, Int.reduceToNat, Tryz.f57, DD, x_app, x_ga0, x_gas, x_gan, Int.cast_ofNat_Int, eq_self, Int.zero_lt_one, Bool.not_false, Bool.not_true, beq_self_eq_true, PA]
  refine loop_of aW0_mono (fun q σ => ∃ sl H i, σ = ⟨sl, H⟩ ∧ q = n - 1 - i ∧ i ≤ n - 1 ∧ look sl 0 = .sl n (pcl n f) ∧ look sl 4 = I64 ((i + 1 : Nat) : Int) ∧ ASl 6 (look sl 3) H (pcl i (der f)) i) ?_ (n := n - 1)
    ⟨_, _, 0, rfl, rfl, Nat.zero_le _, by simp [x_look], by simp [x_look], by simp [x_look, pcl0, ASl.nil]⟩
  rintro q _ ⟨sl, H, i, rfl, rfl, hi, k0, k4, hA⟩
  by_cases hid : i = n - 1
  · have c1 : ¬ ((i + 1 : Nat) : Int) < (n : Int) := by omega
    rw [← hid]
    rw [← hid] at hsp
    simp -implicitDefEqProofs only [go_sem, Nat.reduceAdd, Nat.reduceEqDiff, Nat.reduceLT, reduceIte, reduceCtorEq, Int.reduceLE, Int.reduceLT, Int.reduceEq, Int.reduceAdd, Int.reduceMul, Int.reduceSub, Nat.reduceMul, Nat.reduceSub, Nat.reducePow, Nat.reduceLeDiff, Int.reduceToNat, DD, x_app, x_ga0, x_gas, x_gan, Int.cast_ofNat_Int, eq_self, Int.zero_lt_one, Bool.not_false, Bool.not_true, beq_self_eq_true, k0, k4, c1]
    refine callK_ar annulusref11_Trim.call (rtrim_P hP hsp (by omega) (by omega)) (.cons (.row hA.rsl (snap0_pcl _ _) (isD_pcl _ _)) .nil) rfl ?_
    intro H' _
    simp -implicitDefEqProofs only [go_sem, Nat.reduceAdd, Nat.reduceEqDiff, Nat.reduceLT, reduceIte, reduceCtorEq, Int.reduceLE, Int.reduceLT, Int.reduceEq, Int.reduceAdd, Int.reduceMul, Int.reduceSub, Nat.reduceMul, Nat.reduceSub, Nat.reducePow, Nat.reduceLeDiff, Int.reduceToNat, DD, x_app, x_ga0, x_gas, x_gan, Int.cast_ofNat_Int, eq_self, Int.zero_lt_one, Bool.not_false, Bool.not_true, beq_self_eq_true, k0, k4]
    exact ⟨trivial, isD_PA _ _, rfl⟩
  · have c1 : ((i + 1 : Nat) : Int) < (n : Int) := by omega
    have ci : IntKind.i64.wrap (((i + 1 : Nat) : Int) + 1) = (((i + 1 : Nat) + 1 : Nat) : Int) := by rw [wrap_id (by omega)]; omega
    have c2 : (0 : Int) ≤ ((i + 1 : Nat) : Int) := by omega
    have c4 : (i + 1) * 6 < n * 6 := by omega
    have c5 : (i + 1) * 6 + 6 ≤ n * 6 := by omega
    have hc := pcl_el f (show i + 1 < n by omega)
    have q1 := rof4_sat ((i + 1 : Nat) : Int) (by omega) (by omega)
    have q2 := rtimes8 (h (i + 1)) (dv_small (v := ((i + 1 : Nat) : Int)) (by omega)) (by omega)
    rw [th_at] at q2
    have q2 : Sat CT false 30 [CI (f (i + 1)), DI (dv ((i + 1 : Nat) : Int) 0)] (CI (der f i)) := q2
    simp -implicitDefEqProofs only [go_sem, Nat.reduceAdd, Nat.reduceEqDiff, Nat.reduceLT, reduceIte, reduceCtorEq, Int.reduceLE, Int.reduceLT, Int.reduceEq, Int.reduceAdd, Int.reduceMul, Int.reduceSub, Nat.reduceMul, Nat.reduceSub, Nat.reducePow, Nat.reduceLeDiff, Int.reduceToNat, DD, x_app, x_ga0, x_gas, x_gan, Int.cast_ofNat_Int, eq_self, Int.zero_lt_one, Bool.not_false, Bool.not_true, beq_self_eq_true, k0, k4, ci, c1, c2, c4, c5, hL, hc]
    refine callK_pl annulusref4_Of.call (q1) (pl1 pld_int) ?_
    simp -implicitDefEqProofs only [go_sem, Nat.reduceAdd, Nat.reduceEqDiff, Nat.reduceLT, reduceIte, reduceCtorEq, Int.reduceLE, Int.reduceLT, Int.reduceEq, Int.reduceAdd, Int.reduceMul, Int.reduceSub, Nat.reduceMul, Nat.reduceSub, Nat.reducePow, Nat.reduceLeDiff, Int.reduceToNat, DD, x_app, x_ga0, x_gas, x_gan, Int.cast_ofNat_Int, eq_self, Int.zero_lt_one, Bool.not_false, Bool.not_true, beq_self_eq_true, k0, k4, ci, c1, c2, c4, c5, hL, hc]
    refine callK_pl annulusref8_Times.call (q2) (pl2 (pld_CI _) (pld_DI _)) ?_
    simp -implicitDefEqProofs only [go_sem, Nat.reduceAdd, Nat.reduceEqDiff, Nat.reduceLT, reduceIte, reduceCtorEq, Int.reduceLE, Int.reduceLT, Int.reduceEq, Int.reduceAdd, Int.reduceMul, Int.reduceSub, Nat.reduceMul, Nat.reduceSub, Nat.reducePow, Nat.reduceLeDiff, Int.reduceToNat, DD, x_app, x_ga0, x_gas, x_gan, Int.cast_ofNat_Int, eq_self, Int.zero_lt_one, Bool.not_false, Bool.not_true, beq_self_eq_true, k0, k4, ci, c1, c2, c4, c5, hL, hc]
    refine app_step (P := Tryz.prog) tk45 rfl tk28 tk45 rfl rfl (by decide) (n := i) (m := 1) (hA.ext _) (.inl ⟨rfl, x_hget⟩) rfl (by decide) rfl (Nat.le_trans (Nat.mul_le_mul_right _ (show i + 1 ≤ 1000001 by omega)) (by decide)) (by omega) ?_
    intro H' hg hl' hk'
    simp -implicitDefEqProofs only [go_sem, Nat.reduceAdd, Nat.reduceEqDiff, Nat.reduceLT, reduceIte, reduceCtorEq, Int.reduceLE, Int.reduceLT, Int.reduceEq, Int.reduceAdd, Int.reduceMul, Int.reduceSub, Nat.reduceMul, Nat.reduceSub, Nat.reducePow, Nat.reduceLeDiff, Int.reduceToNat, DD, x_app, x_ga0, x_gas, x_gan, Int.cast_ofNat_Int, eq_self, Int.zero_lt_one, Bool.not_false, Bool.not_true, beq_self_eq_true, k0, k4, ci, c1, c2, c4, c5, hL, hc]
    exact ⟨n - 1 - (i + 1), by omega, _, _, i + 1, rfl, rfl, by omega, by simp [x_look, k0], by simp [x_look], by simp only [x_look, reduceIte, Nat.reduceEqDiff]; exact ASl.lastP (g := der f) hg hl'⟩
end Go.Ab

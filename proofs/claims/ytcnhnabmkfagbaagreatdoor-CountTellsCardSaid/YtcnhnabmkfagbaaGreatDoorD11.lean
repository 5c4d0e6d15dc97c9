/- Contracts of this seat's functions (of each call: what it answers), walked over the abstract machine, and the laws of numbers that they want. Conditions: those that each theorem states. -/
import Derived.Test.YtcnhnabmkfagbaaGreatDoorDS
set_option linter.unusedVariables false
set_option maxRecDepth 20000
set_option linter.unusedSimpArgs false
set_option linter.unusedSectionVars false
namespace Go.Ab
open Go.Proofs
open Cx (zero one)
attribute [-go_sem] appF newsF
variable {a b : AV} {z w : Cx} {B C n m : Nat} {cs ds : List AV} {f g : Po}
theorem rneg_h (h : PB f B) (hB : B ≤ 20000) (hsm : n ≤ 1000000) : HSat CT 70 [PA n f] [] (fun a H => ASl 6 a H (pcl n (pneg f)) n) := by
  refine hsat_of annulusref11_Neg.ok annulusref11_Neg.call (by simp) ?_
  have DD := annulusref11_Neg.dr
  simp only [drP, drPx, drPt, drR, drS, drT, bodyOf, Tryz.f70, Nat.reduceEqDiff, reduceIte, true_and, and_true] at DD
  have hL := pcl_len n f
  simp -implicitDefEqProofs only [go_sem, simprocAttr, -Int.reducePow, Tryz.f70, DD, x_app, x_ga0, x_gas, x_gan, Int.cast_ofNat_Int, eq_self, Int.zero_lt_one, Bool.not_false, Bool.not_true, beq_self_eq_true, PA]
  refine loop_of aW0_mono (fun m σ => ∃ sl H i, σ = ⟨sl, H⟩ ∧ m = n - i ∧ i ≤ n ∧ look sl 0 = .sl n (pcl n f) ∧ look sl 4 = I64 (i : Nat) ∧ ASl 6 (look sl 3) H (pcl i (pneg f)) i) ?_ (n := n) ⟨_, _, 0, rfl, rfl, Nat.zero_le _, by simp [x_look], by simp [x_look], by simp [x_look, pcl0, ASl.nil]⟩
  rintro m _ ⟨sl, H, i, rfl, rfl, hi, k0, k1, hA⟩
  by_cases hid : i = n
  · subst hid
    simp -implicitDefEqProofs only [go_sem, simprocAttr, -Int.reducePow, DD, x_app, x_ga0, x_gas, x_gan, Int.cast_ofNat_Int, eq_self, Int.zero_lt_one, Bool.not_false, Bool.not_true, beq_self_eq_true, k0, k1, Int.lt_irrefl]
    exact hA
  · have c1 : (i : Int) < (n : Int) := by omega
    have ci : IntKind.i64.wrap ((i : Int) + 1) = ((i + 1 : Nat) : Int) := by rw [wrap_id (by omega)]; omega
    have c2 : (0 : Int) ≤ (i : Int) := by omega
    have c4 : i * 6 < n * 6 := by omega
    have c5 : i * 6 + 6 ≤ n * 6 := by omega
    have hc := pcl_el f (show i < n by omega)
    simp -implicitDefEqProofs only [go_sem, simprocAttr, -Int.reducePow, DD, x_app, x_ga0, x_gas, x_gan, Int.cast_ofNat_Int, eq_self, Int.zero_lt_one, Bool.not_false, Bool.not_true, beq_self_eq_true, k0, k1, ci, c1, c2, c4, c5, hL, hc]
    refine callK_pl annulusref8_Neg.call (rneg8 (h i) hB) (pl1 (pld_CI _)) ?_
    simp -implicitDefEqProofs only [go_sem, simprocAttr, -Int.reducePow, DD, x_app, x_ga0, x_gas, x_gan, Int.cast_ofNat_Int, eq_self, Int.zero_lt_one, Bool.not_false, Bool.not_true, beq_self_eq_true, k0, k1, ci, c1, c2, c4, c5, hL, hc]
    refine app_step (P := Tryz.prog) tk22 rfl tk29 tk22 rfl rfl (by decide) (n := i) (m := 1) (hA.ext _) (.inl ⟨rfl, x_hget⟩) rfl (by decide) rfl (Nat.le_trans (Nat.mul_le_mul_right _ (show i + 1 ≤ 1000001 by omega)) (by decide)) (by omega) ?_
    intro H' hg hl' hk'
    simp -implicitDefEqProofs only [go_sem, simprocAttr, -Int.reducePow, DD, x_app, x_ga0, x_gas, x_gan, Int.cast_ofNat_Int, eq_self, Int.zero_lt_one, Bool.not_false, Bool.not_true, beq_self_eq_true, k0, k1, ci, c1, c2, c4, c5, hL, hc]
    exact ⟨n - (i + 1), by omega, _, _, i + 1, rfl, rfl, by omega, by simp [x_look, k0], by simp [x_look], by simp only [x_look, reduceIte, Nat.reduceEqDiff]; exact ASl.lastP (g := (pneg f)) hg hl'⟩
theorem rneg_s (h : PB f B) (hB : B ≤ 20000) (hsm : n ≤ 1000000) : Sat CT false 70 [PA n f] (PA n (pneg f)) := sat_of_hsat (rneg_h h hB hsm) (fun a H' q => ret_ASl q)
end Go.Ab

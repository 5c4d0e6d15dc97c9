/- Contracts of this seat's functions (of each call: what it answers), walked over the abstract machine, and the laws of numbers that they want. Conditions: those that each theorem states. -/
import Derived.Test.YtikemgpeiecdcaaDoorD18
import Derived.Test.YtikemgpeiecdcaaDoorD16
set_option linter.unusedVariables false
set_option maxRecDepth 20000
set_option linter.unusedSimpArgs false
set_option linter.unusedSectionVars false
namespace Go.Ab
open Go.Proofs
open Cx (zero one)
attribute [-go_sem] appF newsF
variable {a b : AV} {z w : Cx} {B C n m : Nat} {cs ds : List AV} {f g : Po}
/-- so many steps -/
def stI (d : Nat) (f : Po) : Nat → Po
  | 0 => f
  | k + 1 => stp d (stI d f k)
theorem stI0 (d : Nat) (f : Po) : stI d f 0 = f := by rw [stI]
theorem stIS (d : Nat) (f : Po) (k : Nat) : stI d f (k + 1) = stp d (stI d f k) := by rw [stI]
theorem Sp.stI {d : Nat} {f : Po} (h : Sp d f) (k : Nat) : Sp d (stI d f k) := by
  induction k with
  | zero => rw [stI0]; exact h
  | succ k ih => rw [stIS]; exact ih.stp
theorem dg_stI {d : Nat} {f : Po} (h : Sp d f) (hd0 : dg d f = d) (k : Nat) : dg d (stI d f k) = d := by
  induction k with
  | zero => rw [stI0]; exact hd0
  | succ k ih => rw [stIS, dg_stp (h.stI k)]; exact ih
theorem PB.stI {d : Nat} {f : Po} (h : PB f B) (hs : Sp d f) (k : Nat) : ∃ b, PB (stI d f k) b ∧ b + d + 2 ≤ 2 ^ k * (B + d + 2) := by
  induction k with
  | zero => exact ⟨B, by rw [stI0]; exact h, by omega⟩
  | succ k ih =>
    obtain ⟨b, h1, h2⟩ := ih
    exact ⟨2 * b + d + 2, by rw [stIS]; exact h1.stp (hs.stI k), by rw [Nat.pow_succ, Nat.mul_comm (2 ^ k) 2, Nat.mul_assoc]; omega⟩
/-- squared so often -/
def sqI (z : Cx) : Nat → Cx
  | 0 => z
  | k + 1 => sqI z k * sqI z k
theorem sqI0 (z : Cx) : sqI z 0 = z := by rw [sqI]
theorem sqIS (z : Cx) (k : Nat) : sqI z (k + 1) = sqI z k * sqI z k := by rw [sqI]
theorem stI_frm (r : Nat → Cx) (i k : Nat) : stI (i + 1) (frm r i) k = frm (fun j => sqI (r j) k) i := by
  induction k with
  | zero => rw [stI0]; rfl
  | succ k ih => rw [stIS, ih, frm_stp]; rfl
theorem gsteps_s (h : RP cs n f B) (K : Nat) (hK : K ≤ 12) (hB0 : B ≤ 4000) (hB : ∀ k, k < K → 2 ^ k * (B + n + 2) ≤ 4000) (hcs : ∀ c ∈ cs, IsD c) (hn : n ≤ 400) : Sat CT false 20 [.sl n cs, I64 (K : Nat)] (PA (dg n f) (stI (dg n f) f K)) := by
  refine sat_of graeffe_Steps.ok (by simp) ?_
  have DD := graeffe_Steps.dr
  simp only [drP, drPx, drR, drS, bodyOf, Tryd.f20, Nat.reduceEqDiff, reduceIte, true_and, and_true] at DD
  have q0 := ptrim_s h (by omega)
  have hle := dg_le n f
  have hs := dg_sp h.sp
  have hself := dg_self h.sp
  have hpb := h.pb
  have c8 : max (K : Int) 0 = (K : Int) := by omega
  have c9 : min (K : Int) 12 = (K : Int) := by omega
  have hst : ∀ k, k < K → Sat CT false 19 [PA (dg n f) (stI (dg n f) f k)] (PA (dg n f) (stI (dg n f) f (k + 1))) := fun k hk => by
    obtain ⟨b, b1, b2⟩ := hpb.stI hs k
    have := Nat.le_trans (Nat.mul_le_mul_left (2 ^ k) (show B + dg n f + 2 ≤ B + n + 2 by omega)) (hB k hk)
    have q := gstep_s (RP_P b1 (hs.stI k) (by omega)) (by omega) (isD_pcl _ _) (by omega)
    rwa [dg_stI hs hself k, ← stIS] at q
  generalize dg n f = d at *
  simp -implicitDefEqProofs only [go_sem, Nat.reduceAdd, Nat.reduceEqDiff, Nat.reduceLT, reduceIte, reduceCtorEq, Int.reduceLE, Int.reduceLT, Int.reduceEq, Int.reduceAdd, Int.reduceMul, Int.reduceSub, Nat.reduceMul, Nat.reduceSub, Nat.reducePow, Nat.reduceLeDiff, Int.reduceToNat, Tryd.f20, DD, x_app, x_ga0, x_gas, x_gan, Int.cast_ofNat_Int, eq_self, Int.zero_lt_one, Bool.not_false, Bool.not_true, beq_self_eq_true, c8, c9]
  refine callK_pl poly_Trim.call (q0) (pl1 (pld_sl hcs)) ?_
  simp -implicitDefEqProofs only [go_sem, Nat.reduceAdd, Nat.reduceEqDiff, Nat.reduceLT, reduceIte, reduceCtorEq, Int.reduceLE, Int.reduceLT, Int.reduceEq, Int.reduceAdd, Int.reduceMul, Int.reduceSub, Nat.reduceMul, Nat.reduceSub, Nat.reducePow, Nat.reduceLeDiff, Int.reduceToNat, DD, x_app, x_ga0, x_gas, x_gan, Int.cast_ofNat_Int, eq_self, Int.zero_lt_one, Bool.not_false, Bool.not_true, beq_self_eq_true, c8, c9]
  refine loop_of aW0_mono (fun q σ => ∃ sl i, σ = ⟨sl, []⟩ ∧ q = K - i ∧ i ≤ K ∧ look sl 5 = PA d (stI d f i) ∧ look sl 10 = I64 (K : Nat) ∧ look sl 11 = I64 (i : Nat)) ?_ (n := K)
    ⟨_, 0, rfl, rfl, Nat.zero_le _, by simp only [x_look, reduceIte, Nat.reduceEqDiff, stI0], by simp [x_look], by simp [x_look]⟩
  rintro q _ ⟨sl, i, rfl, rfl, hi, k5, k10, k11⟩
  by_cases hid : i = K
  · subst hid
    simp -implicitDefEqProofs only [go_sem, Nat.reduceAdd, Nat.reduceEqDiff, Nat.reduceLT, reduceIte, reduceCtorEq, Int.reduceLE, Int.reduceLT, Int.reduceEq, Int.reduceAdd, Int.reduceMul, Int.reduceSub, Nat.reduceMul, Nat.reduceSub, Nat.reducePow, Nat.reduceLeDiff, Int.reduceToNat, DD, x_app, x_ga0, x_gas, x_gan, Int.cast_ofNat_Int, eq_self, Int.zero_lt_one, Bool.not_false, Bool.not_true, beq_self_eq_true, k5, k10, k11, Int.lt_irrefl]
    exact ⟨trivial, isD_PA _ _, rfl⟩
  · have c1 : (i : Int) < (K : Int) := by omega
    have ci : IntKind.i64.wrap ((i : Int) + 1) = ((i + 1 : Nat) : Int) := by rw [wrap_id (by omega)]; omega
    simp -implicitDefEqProofs only [go_sem, Nat.reduceAdd, Nat.reduceEqDiff, Nat.reduceLT, reduceIte, reduceCtorEq, Int.reduceLE, Int.reduceLT, Int.reduceEq, Int.reduceAdd, Int.reduceMul, Int.reduceSub, Nat.reduceMul, Nat.reduceSub, Nat.reducePow, Nat.reduceLeDiff, Int.reduceToNat, DD, x_app, x_ga0, x_gas, x_gan, Int.cast_ofNat_Int, eq_self, Int.zero_lt_one, Bool.not_false, Bool.not_true, beq_self_eq_true, k5, k10, k11, c1, ci]
    refine callK_pl graeffe_Step.call (hst i (by omega)) (pl1 (pld_PA _ _)) ?_
    simp -implicitDefEqProofs only [go_sem, Nat.reduceAdd, Nat.reduceEqDiff, Nat.reduceLT, reduceIte, reduceCtorEq, Int.reduceLE, Int.reduceLT, Int.reduceEq, Int.reduceAdd, Int.reduceMul, Int.reduceSub, Nat.reduceMul, Nat.reduceSub, Nat.reducePow, Nat.reduceLeDiff, Int.reduceToNat, DD, x_app, x_ga0, x_gas, x_gan, Int.cast_ofNat_Int, eq_self, Int.zero_lt_one, Bool.not_false, Bool.not_true, beq_self_eq_true, k5, k10, k11, c1, ci]
    exact ⟨K - (i + 1), by omega, _, i + 1, rfl, rfl, by omega, by simp only [x_look, reduceIte, Nat.reduceEqDiff], by simp [x_look, k10], by simp [x_look]⟩
end Go.Ab

/- Contracts of this seat's functions (of each call: what it answers), walked over the abstract machine, and the laws of numbers that they want. Conditions: those that each theorem states. -/
import Derived.Test.YtdkdpebfnddfpaaGreatDoorD5
set_option linter.unusedVariables false
set_option maxRecDepth 20000
set_option linter.unusedSimpArgs false
namespace Go.Ab
open Go.Proofs

open Cx (zero one)
attribute [-go_sem] appF newsF
variable {a b : AV} {x y : Dyadic} {z w : Cx} {B C n m : Nat} {cs ds : List AV} {f g : Po}
theorem dg_step {n : Nat} {f : Po} (h : f n = zero) : dg (n + 1) f = dg n f := by rw [dgS, if_pos h]
theorem dg_stop {n : Nat} {f : Po} (h : ¬ f n = zero) : dg (n + 1) f = n + 1 := by rw [dgS, if_neg h]

theorem ptrim_h (h : RP cs n f B) (hB : B ≤ 20000) : HSat CT 22 [.sl n cs] [] (fun a H => ASl 6 a H (pcl (dg n f) f) (dg n f)) := by
  refine hsat_of poly_Trim.ok poly_Trim.call (by simp) ?_
  have DD := poly_Trim.dr
  simp only [drP, drPx, drPt, drR, drS, drT, bodyOf, Tryz.f22, Nat.reduceEqDiff, reduceIte, true_and, and_true] at DD
  simp -implicitDefEqProofs only [go_sem, Nat.reduceAdd, Nat.reduceEqDiff, Nat.reduceLT, reduceIte, reduceCtorEq, Int.reduceLE, Int.reduceLT, Int.reduceEq, Int.reduceAdd, Int.reduceMul, Int.reduceSub, Nat.reduceMul, Nat.reduceSub, Nat.reducePow, Nat.reduceLeDiff, Int.reduceToNat, Tryz.f22, DD, beq_self_eq_true, Bool.not_false, Bool.not_true, WI, IA, DI, DA, CI]
  refine scope0 aW0_mono ?_
  rw [x_seqH]
  simp -implicitDefEqProofs only [go_sem, Nat.reduceAdd, Nat.reduceEqDiff, Nat.reduceLT, reduceIte, reduceCtorEq, Int.reduceLE, Int.reduceLT, Int.reduceEq, Int.reduceAdd, Int.reduceMul, Int.reduceSub, Nat.reduceMul, Nat.reduceSub, Nat.reducePow, Nat.reduceLeDiff, Int.reduceToNat, DD, x_app, x_ga0, x_gas, x_gan, Int.cast_ofNat_Int, eq_self, Int.zero_lt_one, Bool.not_false, Bool.not_true, beq_self_eq_true, WI, IA, DI, DA, CI]
  rw [x_HX]
  rw [x_seqH]
  simp -implicitDefEqProofs only [go_sem, Nat.reduceAdd, Nat.reduceEqDiff, Nat.reduceLT, reduceIte, reduceCtorEq, Int.reduceLE, Int.reduceLT, Int.reduceEq, Int.reduceAdd, Int.reduceMul, Int.reduceSub, Nat.reduceMul, Nat.reduceSub, Nat.reducePow, Nat.reduceLeDiff, Int.reduceToNat, DD, x_app, x_ga0, x_gas, x_gan, Int.cast_ofNat_Int, eq_self, Int.zero_lt_one, Bool.not_false, Bool.not_true, beq_self_eq_true, WI, IA, DI, DA, CI]
  rw [x_HX]
  have hsm := h.small
  refine seq_cut aW0_mono (fun σ => ∃ sl, σ = ⟨sl, []⟩ ∧ look sl 0 = .sl n cs ∧ look sl 3 = I64 (dg n f : Nat)) ?_ ?_
  · simp -implicitDefEqProofs only [go_sem, Nat.reduceAdd, Nat.reduceEqDiff, Nat.reduceLT, reduceIte, reduceCtorEq, Int.reduceLE, Int.reduceLT, Int.reduceEq, Int.reduceAdd, Int.reduceMul, Int.reduceSub, Nat.reduceMul, Nat.reduceSub, Nat.reducePow, Nat.reduceLeDiff, Int.reduceToNat, DD, x_app, x_ga0, x_gas, x_gan, Int.cast_ofNat_Int, eq_self, Int.zero_lt_one, Bool.not_false, Bool.not_true, beq_self_eq_true, WI, IA, DI, DA, CI]
    refine loop_of aW0_mono (fun m σ => ∃ sl, σ = ⟨sl, []⟩ ∧ m ≤ n ∧ look sl 0 = .sl n cs ∧ look sl 3 = I64 (m : Nat) ∧ dg n f = dg m f) ?_ (n := n) ⟨_, rfl, Nat.le_refl _, by simp [x_look], by simp [x_look], rfl⟩
    rintro m _ ⟨sl, rfl, hm, h0, h3, hd0⟩
    cases m with
    | zero =>
      simp -implicitDefEqProofs only [go_sem, Nat.reduceAdd, Nat.reduceEqDiff, Nat.reduceLT, reduceIte, reduceCtorEq, Int.reduceLE, Int.reduceLT, Int.reduceEq, Int.reduceAdd, Int.reduceMul, Int.reduceSub, Nat.reduceMul, Nat.reduceSub, Nat.reducePow, Nat.reduceLeDiff, Int.reduceToNat, DD, x_app, x_ga0, x_gas, x_gan, Int.cast_ofNat_Int, eq_self, Int.zero_lt_one, Bool.not_false, Bool.not_true, beq_self_eq_true, WI, IA, DI, DA, CI, h0, h3, Int.natCast_zero]
      refine ⟨_, rfl, by simp [x_look, h0], ?_⟩
      rw [hd0, dg0]; simp [x_look, h3]
    | succ m =>
      have c1 : (0 : Int) < ((m + 1 : Nat) : Int) := by omega
      have c2 : IntKind.i64.wrap (((m + 1 : Nat) : Int) - 1) = (m : Int) := by rw [wrap_id (by omega)]; omega
      have c3 : (0 : Int) ≤ (m : Int) := by omega
      have c4 : (m : Int) < (n : Int) := by omega
      have hlen := h.len
      have c5 : m * 6 < cs.length := by omega
      have c6 : m * 6 + 6 ≤ cs.length := by omega
      obtain ⟨s, l, e, t, k, g, hc, hr⟩ := h.cells (i := m) (by omega)
      have q := gzero_r hr hB
      by_cases hz : f m = zero
      · rw [decide_eq_true hz] at q
        simp -implicitDefEqProofs only [go_sem, Nat.reduceAdd, Nat.reduceEqDiff, Nat.reduceLT, reduceIte, reduceCtorEq, Int.reduceLE, Int.reduceLT, Int.reduceEq, Int.reduceAdd, Int.reduceMul, Int.reduceSub, Nat.reduceMul, Nat.reduceSub, Nat.reducePow, Nat.reduceLeDiff, Int.reduceToNat, DD, x_app, x_ga0, x_gas, x_gan, Int.cast_ofNat_Int, eq_self, Int.zero_lt_one, Bool.not_false, Bool.not_true, beq_self_eq_true, WI, IA, DI, DA, CI, h0, h3, c1, c2, c3, c4, c5, c6, hc]
        refine callK_of false gauss_Zero.call (q) rfl rfl (by simp [ownOK, own1, hd, fzH, fzArgs, fzCells, fz, IA, WI, DI, DA, CI, U32]) (by simp [U32, isD_u32, isD_v, isD_nil, isD_agg, IA, WI, DI, DA, CI]) ?_
        simp -implicitDefEqProofs only [go_sem, Nat.reduceAdd, Nat.reduceEqDiff, Nat.reduceLT, reduceIte, reduceCtorEq, Int.reduceLE, Int.reduceLT, Int.reduceEq, Int.reduceAdd, Int.reduceMul, Int.reduceSub, Nat.reduceMul, Nat.reduceSub, Nat.reducePow, Nat.reduceLeDiff, Int.reduceToNat, DD, x_app, x_ga0, x_gas, x_gan, Int.cast_ofNat_Int, eq_self, Int.zero_lt_one, Bool.not_false, Bool.not_true, beq_self_eq_true, WI, IA, DI, DA, CI, h0, h3, c1, c2, c3, c4, c5, c6, hc]
        exact ⟨m, by omega, _, rfl, by omega, by simp [x_look, h0], by simp [x_look], by rw [hd0, dg_step hz]⟩
      · rw [decide_eq_false hz] at q
        simp -implicitDefEqProofs only [go_sem, Nat.reduceAdd, Nat.reduceEqDiff, Nat.reduceLT, reduceIte, reduceCtorEq, Int.reduceLE, Int.reduceLT, Int.reduceEq, Int.reduceAdd, Int.reduceMul, Int.reduceSub, Nat.reduceMul, Nat.reduceSub, Nat.reducePow, Nat.reduceLeDiff, Int.reduceToNat, DD, x_app, x_ga0, x_gas, x_gan, Int.cast_ofNat_Int, eq_self, Int.zero_lt_one, Bool.not_false, Bool.not_true, beq_self_eq_true, WI, IA, DI, DA, CI, h0, h3, c1, c2, c3, c4, c5, c6, hc]
        refine callK_of false gauss_Zero.call (q) rfl rfl (by simp [ownOK, own1, hd, fzH, fzArgs, fzCells, fz, IA, WI, DI, DA, CI, U32]) (by simp [U32, isD_u32, isD_v, isD_nil, isD_agg, IA, WI, DI, DA, CI]) ?_
        simp -implicitDefEqProofs only [go_sem, Nat.reduceAdd, Nat.reduceEqDiff, Nat.reduceLT, reduceIte, reduceCtorEq, Int.reduceLE, Int.reduceLT, Int.reduceEq, Int.reduceAdd, Int.reduceMul, Int.reduceSub, Nat.reduceMul, Nat.reduceSub, Nat.reducePow, Nat.reduceLeDiff, Int.reduceToNat, DD, x_app, x_ga0, x_gas, x_gan, Int.cast_ofNat_Int, eq_self, Int.zero_lt_one, Bool.not_false, Bool.not_true, beq_self_eq_true, WI, IA, DI, DA, CI, h0, h3, c1, c2, c3, c4, c5, c6, hc]
        exact ⟨_, rfl, by simp [x_look, h0], by rw [hd0, dg_stop hz]; simp [x_look, h3]⟩
  · rintro _ ⟨sl, rfl, h0, h3⟩
    have hle := dg_le n f
    generalize hD : dg n f = d at *
    have hlen := h.len
    have c1 : (0 : Int) ≤ (d : Int) := by omega
    have c2 : (d : Int) ≤ (n : Int) := by omega
    rw [x_seqH]
    simp -implicitDefEqProofs only [go_sem, Nat.reduceAdd, Nat.reduceEqDiff, Nat.reduceLT, reduceIte, reduceCtorEq, Int.reduceLE, Int.reduceLT, Int.reduceEq, Int.reduceAdd, Int.reduceMul, Int.reduceSub, Nat.reduceMul, Nat.reduceSub, Nat.reducePow, Nat.reduceLeDiff, Int.reduceToNat, DD, x_app, x_ga0, x_gas, x_gan, Int.cast_ofNat_Int, eq_self, Int.zero_lt_one, Bool.not_false, Bool.not_true, beq_self_eq_true, WI, IA, DI, DA, CI, h0, h3, c1, c2]
    rw [x_HX]
    rw [x_seqH, x_seq]
    simp -implicitDefEqProofs only [go_sem, Nat.reduceAdd, Nat.reduceEqDiff, Nat.reduceLT, reduceIte, reduceCtorEq, Int.reduceLE, Int.reduceLT, Int.reduceEq, Int.reduceAdd, Int.reduceMul, Int.reduceSub, Nat.reduceMul, Nat.reduceSub, Nat.reducePow, Nat.reduceLeDiff, Int.reduceToNat, DD, x_app, x_ga0, x_gas, x_gan, Int.cast_ofNat_Int, eq_self, Int.zero_lt_one, Bool.not_false, Bool.not_true, beq_self_eq_true, WI, IA, DI, DA, CI, h0, h3, c1, c2]
    refine loop_of aW0_mono (fun m σ => ∃ sl H i, σ = ⟨sl, H⟩ ∧ m = d - i ∧ i ≤ d ∧ look sl 22 = .sl d (List.take (d * 6) cs) ∧ look sl 23 = I64 (d : Nat) ∧ look sl 24 = I64 (i : Nat) ∧ ASl 6 (look sl 4) H (pcl i f) i) ?_ (n := d) ⟨_, _, 0, rfl, rfl, Nat.zero_le _, by simp [x_look], by simp [x_look], by simp [x_look], by simp [x_look, pcl0, ASl.nil]⟩
    rintro m _ ⟨sl, H, i, rfl, rfl, hi, h22, h23, h24, hA⟩
    by_cases hid : i = d
    · subst hid
      simp -implicitDefEqProofs only [go_sem, Nat.reduceAdd, Nat.reduceEqDiff, Nat.reduceLT, reduceIte, reduceCtorEq, Int.reduceLE, Int.reduceLT, Int.reduceEq, Int.reduceAdd, Int.reduceMul, Int.reduceSub, Nat.reduceMul, Nat.reduceSub, Nat.reducePow, Nat.reduceLeDiff, Int.reduceToNat, DD, x_app, x_ga0, x_gas, x_gan, Int.cast_ofNat_Int, eq_self, Int.zero_lt_one, Bool.not_false, Bool.not_true, beq_self_eq_true, WI, IA, DI, DA, CI, h22, h23, h24, Int.lt_irrefl, x_HX]
      exact hA
    · have c4 : (i : Int) < (d : Int) := by omega
      have c5 : (0 : Int) ≤ (i : Int) := by omega
      have c6 : IntKind.i64.wrap ((i : Int) + 1) = ((i + 1 : Nat) : Int) := by rw [wrap_id (by omega)]; omega
      have hT := len_take hlen hle
      have c7 : i * 6 < d * 6 := by omega
      have c8 : i * 6 + 6 ≤ d * 6 := by omega
      obtain ⟨s, l, e, t, k, g, hc, hr⟩ := h.cells (i := i) (by omega)
      rw [← el_take (d := d) (by omega)] at hc
      have q := gscale0_r hr hB
      simp -implicitDefEqProofs only [go_sem, Nat.reduceAdd, Nat.reduceEqDiff, Nat.reduceLT, reduceIte, reduceCtorEq, Int.reduceLE, Int.reduceLT, Int.reduceEq, Int.reduceAdd, Int.reduceMul, Int.reduceSub, Nat.reduceMul, Nat.reduceSub, Nat.reducePow, Nat.reduceLeDiff, Int.reduceToNat, DD, x_app, x_ga0, x_gas, x_gan, Int.cast_ofNat_Int, eq_self, Int.zero_lt_one, Bool.not_false, Bool.not_true, beq_self_eq_true, WI, IA, DI, DA, CI, h22, h23, h24, c4, c5, c6, hT, c7, c8, hc]
      refine callK_of false gauss_Scale.call (q) rfl rfl (by simp [ownOK, own1, hd, fzH, fzArgs, fzCells, fz, IA, WI, DI, DA, CI, U32]) (by simp [U32, isD_u32, isD_v, isD_nil, isD_agg, IA, WI, DI, DA, CI]) ?_
      simp -implicitDefEqProofs only [go_sem, Nat.reduceAdd, Nat.reduceEqDiff, Nat.reduceLT, reduceIte, reduceCtorEq, Int.reduceLE, Int.reduceLT, Int.reduceEq, Int.reduceAdd, Int.reduceMul, Int.reduceSub, Nat.reduceMul, Nat.reduceSub, Nat.reducePow, Nat.reduceLeDiff, Int.reduceToNat, DD, x_app, x_ga0, x_gas, x_gan, Int.cast_ofNat_Int, eq_self, Int.zero_lt_one, Bool.not_false, Bool.not_true, beq_self_eq_true, WI, IA, DI, DA, CI, h22, h23, h24, c4, c5, c6, hT, c7, c8, hc]
      refine app_step (P := Tryz.prog) tk22 rfl tk34 tk22 rfl rfl (by decide) (n := i) (m := 1) ((hA.ext _).ext _) (.inl ⟨rfl, x_hget⟩) rfl (by decide) rfl (Nat.le_trans (Nat.mul_le_mul_right _ (show i + 1 ≤ 1000001 by omega)) (by decide)) (by omega) ?_
      intro H' hg hl' hk'
      simp -implicitDefEqProofs only [go_sem, Nat.reduceAdd, Nat.reduceEqDiff, Nat.reduceLT, reduceIte, reduceCtorEq, Int.reduceLE, Int.reduceLT, Int.reduceEq, Int.reduceAdd, Int.reduceMul, Int.reduceSub, Nat.reduceMul, Nat.reduceSub, Nat.reducePow, Nat.reduceLeDiff, Int.reduceToNat, DD, x_app, x_ga0, x_gas, x_gan, Int.cast_ofNat_Int, eq_self, Int.zero_lt_one, Bool.not_false, Bool.not_true, beq_self_eq_true, WI, IA, DI, DA, CI, h22, h23, h24, c4, c5, c6, hT, c7, c8, hc]
      exact ⟨d - (i + 1), by omega, _, _, i + 1, rfl, rfl, by omega, by simp [x_look, h22], by simp [x_look, h23], by simp [x_look], by simp only [x_look, reduceIte, Nat.reduceEqDiff]; rw [pclS]; exact ASl.last hg hl' (by rw [List.length_append, pcl_len]; show i * 6 + 6 = _; omega)⟩
end Go.Ab

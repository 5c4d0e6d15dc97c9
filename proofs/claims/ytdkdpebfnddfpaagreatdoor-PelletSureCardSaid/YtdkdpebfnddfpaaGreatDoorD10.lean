/- Contracts of this seat's functions (of each call: what it answers), walked over the abstract machine, and the laws of numbers that they want. Conditions: those that each theorem states. -/
import Derived.Test.YtdkdpebfnddfpaaGreatDoorD9
set_option linter.unusedVariables false
set_option maxRecDepth 20000
set_option linter.unusedSimpArgs false
set_option linter.unusedSectionVars false
namespace Go.Ab
open Go.Proofs
open Cx (zero one)
attribute [-go_sem] appF newsF
variable {a b : AV} {z w : Cx} {B C n m : Nat} {cs ds : List AV} {f g : Po}
theorem ASl.lastP {H : Heap} {k i : Nat} {g : Po} (h : H.getD k ⟨[], false, false⟩ = ⟨pcl i g ++ CIc (g i), true, true⟩) (hl : H.length = k + 1) : ASl 6 (.own 6 k 0 (i + 1)) H (pcl (i + 1) g) (i + 1) :=
  ASl.last (by rw [pclS]; exact h) hl (pcl_len _ _)
theorem sameint_d {x y : Int} (hx : Lz x < 1099511627776) (hy : Lz y < 1099511627776) : Sat CT false 29 [WI x, WI y] (Bo (decide (x = y))) := by
  by_cases e : x = y
  · rw [decide_eq_true e]; exact same_w e hx
  rw [decide_eq_false e]
  refine sat_of annulusref1_SameInt.ok (by simp) ?_
  have DD := annulusref1_SameInt.dr
  simp only [drP, drPx, drPt, drR, drS, drT, bodyOf, Tryz.f29, Nat.reduceEqDiff, reduceIte, true_and, and_true] at DD
  by_cases hs : (decide (x < 0) == decide (y < 0)) = true
  · have q := same_sat (lim x.natAbs) (lim y.natAbs) hx hy
    rw [decide_eq_false (fun h => e (by
      have h1 : x.natAbs = y.natAbs := by rw [← nv_lim x.natAbs, h, nv_lim]
      have h2 : (x < 0) ↔ (y < 0) := by simpa using hs
      omega))] at q
    simp -implicitDefEqProofs only [go_sem, Nat.reduceAdd, Nat.reduceEqDiff, Nat.reduceLT, reduceIte, reduceCtorEq, Int.reduceLE, Int.reduceLT, Int.reduceEq, Int.reduceAdd, Int.reduceMul, Int.reduceSub, Nat.reduceMul, Nat.reduceSub, Nat.reducePow, Nat.reduceLeDiff, Int.reduceToNat, Tryz.f29, DD, x_app, x_ga0, x_gas, x_gan, Int.cast_ofNat_Int, eq_self, Int.zero_lt_one, Bool.not_false, Bool.not_true, beq_self_eq_true, WI, IA, DI, DA, CI, hs]
    refine callK_of false annulusref1_Same.call (q) rfl rfl (by simp [ownOK, own1, hd, fzH, fzArgs, fzCells, fz, IA, WI, DI, DA, CI, U32]) (by simp [U32, isD_u32, isD_v, isD_nil, isD_agg, IA, WI, DI, DA, CI]) ?_
    simp -implicitDefEqProofs only [go_sem, Nat.reduceAdd, Nat.reduceEqDiff, Nat.reduceLT, reduceIte, reduceCtorEq, Int.reduceLE, Int.reduceLT, Int.reduceEq, Int.reduceAdd, Int.reduceMul, Int.reduceSub, Nat.reduceMul, Nat.reduceSub, Nat.reducePow, Nat.reduceLeDiff, Int.reduceToNat, DD, x_app, x_ga0, x_gas, x_gan, Int.cast_ofNat_Int, eq_self, Int.zero_lt_one, Bool.not_false, Bool.not_true, beq_self_eq_true, WI, IA, DI, DA, CI, hs]
  · have hs : (decide (x < 0) == decide (y < 0)) = false := by simpa using hs
    simp -implicitDefEqProofs only [go_sem, Nat.reduceAdd, Nat.reduceEqDiff, Nat.reduceLT, reduceIte, reduceCtorEq, Int.reduceLE, Int.reduceLT, Int.reduceEq, Int.reduceAdd, Int.reduceMul, Int.reduceSub, Nat.reduceMul, Nat.reduceSub, Nat.reducePow, Nat.reduceLeDiff, Int.reduceToNat, Tryz.f29, DD, x_app, x_ga0, x_gas, x_gan, Int.cast_ofNat_Int, eq_self, Int.zero_lt_one, Bool.not_false, Bool.not_true, beq_self_eq_true, WI, IA, DI, DA, CI, hs]
theorem dy_eq {x y : Dyadic} (h : dexp x = dexp y) (g : dnum x = dnum y) : x = y := by rw [← dv_of x, ← dv_of y, h, g]
theorem requal4d {x y : Dyadic} (hx : DB x B) (hy : DB y C) (hB : B ≤ 20000) (hC : C ≤ 20000) : Sat CT false 13 [DI x, DI y] (Bo (decide (x = y))) := by
  refine sat_of annulusref4_Equal.ok (by simp) ?_
  have DD := annulusref4_Equal.dr
  simp only [drP, drPx, drPt, drR, drS, drT, bodyOf, Tryz.f13, Nat.reduceEqDiff, reduceIte, true_and, and_true] at DD
  by_cases he : dexp x = dexp y
  · have hx1 := hx.lim
    have hy1 := hy.lim
    have q := sameint_d (x := dnum x) (y := dnum y) (by show (lim (dnum x).natAbs).length < _; omega) (by show (lim (dnum y).natAbs).length < _; omega)
    have e : decide (x = y) = decide (dnum x = dnum y) := decide_eq_decide.2 ⟨fun h => by rw [h], fun h => dy_eq he h⟩
    rw [e]
    simp -implicitDefEqProofs only [go_sem, Nat.reduceAdd, Nat.reduceEqDiff, Nat.reduceLT, reduceIte, reduceCtorEq, Int.reduceLE, Int.reduceLT, Int.reduceEq, Int.reduceAdd, Int.reduceMul, Int.reduceSub, Nat.reduceMul, Nat.reduceSub, Nat.reducePow, Nat.reduceLeDiff, Int.reduceToNat, Tryz.f13, DD, x_app, x_ga0, x_gas, x_gan, Int.cast_ofNat_Int, eq_self, Int.zero_lt_one, Bool.not_false, Bool.not_true, beq_self_eq_true, WI, IA, DI, DA, CI, he]
    refine callK_of false annulusref1_SameInt.call (q) rfl rfl (by simp [ownOK, own1, hd, fzH, fzArgs, fzCells, fz, IA, WI, DI, DA, CI, U32]) (by simp [U32, isD_u32, isD_v, isD_nil, isD_agg, IA, WI, DI, DA, CI]) ?_
    simp -implicitDefEqProofs only [go_sem, Nat.reduceAdd, Nat.reduceEqDiff, Nat.reduceLT, reduceIte, reduceCtorEq, Int.reduceLE, Int.reduceLT, Int.reduceEq, Int.reduceAdd, Int.reduceMul, Int.reduceSub, Nat.reduceMul, Nat.reduceSub, Nat.reducePow, Nat.reduceLeDiff, Int.reduceToNat, DD, x_app, x_ga0, x_gas, x_gan, Int.cast_ofNat_Int, eq_self, Int.zero_lt_one, Bool.not_false, Bool.not_true, beq_self_eq_true, WI, IA, DI, DA, CI, he]
  · rw [decide_eq_false (fun h => he (by rw [h]))]
    simp -implicitDefEqProofs only [go_sem, Nat.reduceAdd, Nat.reduceEqDiff, Nat.reduceLT, reduceIte, reduceCtorEq, Int.reduceLE, Int.reduceLT, Int.reduceEq, Int.reduceAdd, Int.reduceMul, Int.reduceSub, Nat.reduceMul, Nat.reduceSub, Nat.reducePow, Nat.reduceLeDiff, Int.reduceToNat, Tryz.f13, DD, x_app, x_ga0, x_gas, x_gan, Int.cast_ofNat_Int, eq_self, Int.zero_lt_one, Bool.not_false, Bool.not_true, beq_self_eq_true, WI, IA, DI, DA, CI, he]
theorem rtrim_h (h : RP cs n f B) (hB : B ≤ 20000) : HSat CT 7 [.sl n cs] [] (fun a H => ASl 6 a H (pcl (dg n f) f) (dg n f)) := by
  refine hsat_of annulusref11_Trim.ok annulusref11_Trim.call (by simp) ?_
  have DD := annulusref11_Trim.dr
  simp only [drP, drPx, drPt, drR, drS, drT, bodyOf, Tryz.f7, Nat.reduceEqDiff, reduceIte, true_and, and_true] at DD
  simp only [bodyOf, aW1, Tryz.f7]
  have hsm := h.small
  have hlen := h.len
  rw [x_seqH]
  simp -implicitDefEqProofs only [go_sem, Nat.reduceAdd, Nat.reduceEqDiff, Nat.reduceLT, reduceIte, reduceCtorEq, Int.reduceLE, Int.reduceLT, Int.reduceEq, Int.reduceAdd, Int.reduceMul, Int.reduceSub, Nat.reduceMul, Nat.reduceSub, Nat.reducePow, Nat.reduceLeDiff, Int.reduceToNat, DD, x_app, x_ga0, x_gas, x_gan, Int.cast_ofNat_Int, eq_self, Int.zero_lt_one, Bool.not_false, Bool.not_true, beq_self_eq_true]
  rw [x_HX]
  rw [x_seqH]
  simp -implicitDefEqProofs only [go_sem, Nat.reduceAdd, Nat.reduceEqDiff, Nat.reduceLT, reduceIte, reduceCtorEq, Int.reduceLE, Int.reduceLT, Int.reduceEq, Int.reduceAdd, Int.reduceMul, Int.reduceSub, Nat.reduceMul, Nat.reduceSub, Nat.reducePow, Nat.reduceLeDiff, Int.reduceToNat, DD, x_app, x_ga0, x_gas, x_gan, Int.cast_ofNat_Int, eq_self, Int.zero_lt_one, Bool.not_false, Bool.not_true, beq_self_eq_true]
  rw [x_HX]
  rw [x_seqH]
  simp -implicitDefEqProofs only [go_sem, Nat.reduceAdd, Nat.reduceEqDiff, Nat.reduceLT, reduceIte, reduceCtorEq, Int.reduceLE, Int.reduceLT, Int.reduceEq, Int.reduceAdd, Int.reduceMul, Int.reduceSub, Nat.reduceMul, Nat.reduceSub, Nat.reducePow, Nat.reduceLeDiff, Int.reduceToNat, DD, x_app, x_ga0, x_gas, x_gan, Int.cast_ofNat_Int, eq_self, Int.zero_lt_one, Bool.not_false, Bool.not_true, beq_self_eq_true]
  rw [x_HX]
  refine seq_cut aW0_mono (fun σ => ∃ sl, σ = ⟨sl, []⟩ ∧ look sl 0 = .sl n cs ∧ look sl 3 = .v (.slice none 0 0) ∧ look sl 4 = I64 (dg n f : Nat)) ?_ ?_
  · simp -implicitDefEqProofs only [go_sem, Nat.reduceAdd, Nat.reduceEqDiff, Nat.reduceLT, reduceIte, reduceCtorEq, Int.reduceLE, Int.reduceLT, Int.reduceEq, Int.reduceAdd, Int.reduceMul, Int.reduceSub, Nat.reduceMul, Nat.reduceSub, Nat.reducePow, Nat.reduceLeDiff, Int.reduceToNat, DD, x_app, x_ga0, x_gas, x_gan, Int.cast_ofNat_Int, eq_self, Int.zero_lt_one, Bool.not_false, Bool.not_true, beq_self_eq_true]
    refine loop_of aW0_mono (fun m σ => ∃ sl, σ = ⟨sl, []⟩ ∧ m ≤ n ∧ look sl 0 = .sl n cs ∧ look sl 3 = .v (.slice none 0 0) ∧ look sl 4 = I64 (m : Nat) ∧ dg n f = dg m f) ?_ (n := n) ⟨_, rfl, Nat.le_refl _, by simp [x_look], by simp [x_look], by simp [x_look], rfl⟩
    rintro m _ ⟨sl, rfl, hm, k0, k3, k4, hd0⟩
    cases m with
    | zero =>
      simp -implicitDefEqProofs only [go_sem, Nat.reduceAdd, Nat.reduceEqDiff, Nat.reduceLT, reduceIte, reduceCtorEq, Int.reduceLE, Int.reduceLT, Int.reduceEq, Int.reduceAdd, Int.reduceMul, Int.reduceSub, Nat.reduceMul, Nat.reduceSub, Nat.reducePow, Nat.reduceLeDiff, Int.reduceToNat, DD, x_app, x_ga0, x_gas, x_gan, Int.cast_ofNat_Int, eq_self, Int.zero_lt_one, Bool.not_false, Bool.not_true, beq_self_eq_true, k0, k3, k4, Int.natCast_zero, Int.lt_irrefl]
      refine ⟨_, rfl, by simp [x_look, k0], by simp [x_look, k3], ?_⟩
      rw [hd0, dg0]; simp [x_look, k4]
    | succ m =>
      have c1 : (0 : Int) < ((m + 1 : Nat) : Int) := by omega
      have c2 : IntKind.i64.wrap (((m + 1 : Nat) : Int) - 1) = (m : Int) := by rw [wrap_id (by omega)]; omega
      have c3 : (0 : Int) ≤ (m : Int) := by omega
      have c4 : (m : Int) < (n : Int) := by omega
      have c5 : m * 6 < cs.length := by omega
      have c6 : m * 6 + 6 ≤ cs.length := by omega
      obtain ⟨s, l, e, t, k, g, hc, hr⟩ := h.cells (i := m) (by omega)
      have q1 := rcplx_r hr hB
      have q := rzero_r (RC_C hr.cb) hB
      by_cases hz : f m = zero
      · rw [decide_eq_true hz] at q
        simp -implicitDefEqProofs only [go_sem, Nat.reduceAdd, Nat.reduceEqDiff, Nat.reduceLT, reduceIte, reduceCtorEq, Int.reduceLE, Int.reduceLT, Int.reduceEq, Int.reduceAdd, Int.reduceMul, Int.reduceSub, Nat.reduceMul, Nat.reduceSub, Nat.reducePow, Nat.reduceLeDiff, Int.reduceToNat, DD, x_app, x_ga0, x_gas, x_gan, Int.cast_ofNat_Int, eq_self, Int.zero_lt_one, Bool.not_false, Bool.not_true, beq_self_eq_true, k0, k3, k4, c1, c2, c3, c4, c5, c6, hc]
        refine callK_pl annulusref8_Cplx.call (q1) (pl1 (pld_RC hr)) ?_
        simp -implicitDefEqProofs only [go_sem, Nat.reduceAdd, Nat.reduceEqDiff, Nat.reduceLT, reduceIte, reduceCtorEq, Int.reduceLE, Int.reduceLT, Int.reduceEq, Int.reduceAdd, Int.reduceMul, Int.reduceSub, Nat.reduceMul, Nat.reduceSub, Nat.reducePow, Nat.reduceLeDiff, Int.reduceToNat, DD, x_app, x_ga0, x_gas, x_gan, Int.cast_ofNat_Int, eq_self, Int.zero_lt_one, Bool.not_false, Bool.not_true, beq_self_eq_true, k0, k3, k4, c1, c2, c3, c4, c5, c6, hc]
        refine callK_pl annulusref8_Zero.call (q) (pl1 (pld_CI _)) ?_
        simp -implicitDefEqProofs only [go_sem, Nat.reduceAdd, Nat.reduceEqDiff, Nat.reduceLT, reduceIte, reduceCtorEq, Int.reduceLE, Int.reduceLT, Int.reduceEq, Int.reduceAdd, Int.reduceMul, Int.reduceSub, Nat.reduceMul, Nat.reduceSub, Nat.reducePow, Nat.reduceLeDiff, Int.reduceToNat, DD, x_app, x_ga0, x_gas, x_gan, Int.cast_ofNat_Int, eq_self, Int.zero_lt_one, Bool.not_false, Bool.not_true, beq_self_eq_true, k0, k3, k4, c1, c2, c3, c4, c5, c6, hc]
        exact ⟨m, by omega, _, rfl, by omega, by simp [x_look, k0], by simp [x_look, k3], by simp [x_look], by rw [hd0, dg_step hz]⟩
      · rw [decide_eq_false hz] at q
        simp -implicitDefEqProofs only [go_sem, Nat.reduceAdd, Nat.reduceEqDiff, Nat.reduceLT, reduceIte, reduceCtorEq, Int.reduceLE, Int.reduceLT, Int.reduceEq, Int.reduceAdd, Int.reduceMul, Int.reduceSub, Nat.reduceMul, Nat.reduceSub, Nat.reducePow, Nat.reduceLeDiff, Int.reduceToNat, DD, x_app, x_ga0, x_gas, x_gan, Int.cast_ofNat_Int, eq_self, Int.zero_lt_one, Bool.not_false, Bool.not_true, beq_self_eq_true, k0, k3, k4, c1, c2, c3, c4, c5, c6, hc]
        refine callK_pl annulusref8_Cplx.call (q1) (pl1 (pld_RC hr)) ?_
        simp -implicitDefEqProofs only [go_sem, Nat.reduceAdd, Nat.reduceEqDiff, Nat.reduceLT, reduceIte, reduceCtorEq, Int.reduceLE, Int.reduceLT, Int.reduceEq, Int.reduceAdd, Int.reduceMul, Int.reduceSub, Nat.reduceMul, Nat.reduceSub, Nat.reducePow, Nat.reduceLeDiff, Int.reduceToNat, DD, x_app, x_ga0, x_gas, x_gan, Int.cast_ofNat_Int, eq_self, Int.zero_lt_one, Bool.not_false, Bool.not_true, beq_self_eq_true, k0, k3, k4, c1, c2, c3, c4, c5, c6, hc]
        refine callK_pl annulusref8_Zero.call (q) (pl1 (pld_CI _)) ?_
        simp -implicitDefEqProofs only [go_sem, Nat.reduceAdd, Nat.reduceEqDiff, Nat.reduceLT, reduceIte, reduceCtorEq, Int.reduceLE, Int.reduceLT, Int.reduceEq, Int.reduceAdd, Int.reduceMul, Int.reduceSub, Nat.reduceMul, Nat.reduceSub, Nat.reducePow, Nat.reduceLeDiff, Int.reduceToNat, DD, x_app, x_ga0, x_gas, x_gan, Int.cast_ofNat_Int, eq_self, Int.zero_lt_one, Bool.not_false, Bool.not_true, beq_self_eq_true, k0, k3, k4, c1, c2, c3, c4, c5, c6, hc]
        exact ⟨_, rfl, by simp [x_look, k0], by simp [x_look, k3], by rw [hd0, dg_stop hz]; simp [x_look, k4]⟩
  · rintro _ ⟨sl, rfl, k0, k3, k4⟩
    have hle := dg_le n f
    generalize hD : dg n f = d at *
    simp -implicitDefEqProofs only [go_sem, Nat.reduceAdd, Nat.reduceEqDiff, Nat.reduceLT, reduceIte, reduceCtorEq, Int.reduceLE, Int.reduceLT, Int.reduceEq, Int.reduceAdd, Int.reduceMul, Int.reduceSub, Nat.reduceMul, Nat.reduceSub, Nat.reducePow, Nat.reduceLeDiff, Int.reduceToNat, DD, x_app, x_ga0, x_gas, x_gan, Int.cast_ofNat_Int, eq_self, Int.zero_lt_one, Bool.not_false, Bool.not_true, beq_self_eq_true, k0, k3, k4]
    refine loop_of aW0_mono (fun m σ => ∃ sl H i, σ = ⟨sl, H⟩ ∧ m = d - i ∧ i ≤ d ∧ look sl 0 = .sl n cs ∧ look sl 4 = I64 (d : Nat) ∧ look sl 5 = I64 (i : Nat) ∧ ASl 6 (look sl 3) H (pcl i f) i) ?_ (n := d) ⟨_, _, 0, rfl, rfl, Nat.zero_le _, by simp [x_look, k0], by simp [x_look, k4], by simp [x_look], by simp [x_look, k3, pcl0, ASl.nil]⟩
    clear k0 k3 k4
    rintro m _ ⟨sl, H, i, rfl, rfl, hi, k0, k4, k5, hA⟩
    by_cases hid : i = d
    · subst hid
      simp -implicitDefEqProofs only [go_sem, Nat.reduceAdd, Nat.reduceEqDiff, Nat.reduceLT, reduceIte, reduceCtorEq, Int.reduceLE, Int.reduceLT, Int.reduceEq, Int.reduceAdd, Int.reduceMul, Int.reduceSub, Nat.reduceMul, Nat.reduceSub, Nat.reducePow, Nat.reduceLeDiff, Int.reduceToNat, DD, x_app, x_ga0, x_gas, x_gan, Int.cast_ofNat_Int, eq_self, Int.zero_lt_one, Bool.not_false, Bool.not_true, beq_self_eq_true, k0, k4, k5, Int.lt_irrefl]
      exact hA
    · have c4 : (i : Int) < (d : Int) := by omega
      have ci : IntKind.i64.wrap ((i : Int) + 1) = ((i + 1 : Nat) : Int) := by rw [wrap_id (by omega)]; omega
      have c5 : (0 : Int) ≤ (i : Int) := by omega
      have c9 : (i : Int) < (n : Int) := by omega
      have c7 : i * 6 < cs.length := by omega
      have c8 : i * 6 + 6 ≤ cs.length := by omega
      obtain ⟨s, l, e, t, k, g, hc, hr⟩ := h.cells (i := i) (by omega)
      have q := rcplx_r hr hB
      simp -implicitDefEqProofs only [go_sem, Nat.reduceAdd, Nat.reduceEqDiff, Nat.reduceLT, reduceIte, reduceCtorEq, Int.reduceLE, Int.reduceLT, Int.reduceEq, Int.reduceAdd, Int.reduceMul, Int.reduceSub, Nat.reduceMul, Nat.reduceSub, Nat.reducePow, Nat.reduceLeDiff, Int.reduceToNat, DD, x_app, x_ga0, x_gas, x_gan, Int.cast_ofNat_Int, eq_self, Int.zero_lt_one, Bool.not_false, Bool.not_true, beq_self_eq_true, k0, k4, k5, ci, c4, c5, c7, c8, c9, hc]
      refine callK_pl annulusref8_Cplx.call (q) (pl1 (pld_RC hr)) ?_
      simp -implicitDefEqProofs only [go_sem, Nat.reduceAdd, Nat.reduceEqDiff, Nat.reduceLT, reduceIte, reduceCtorEq, Int.reduceLE, Int.reduceLT, Int.reduceEq, Int.reduceAdd, Int.reduceMul, Int.reduceSub, Nat.reduceMul, Nat.reduceSub, Nat.reducePow, Nat.reduceLeDiff, Int.reduceToNat, DD, x_app, x_ga0, x_gas, x_gan, Int.cast_ofNat_Int, eq_self, Int.zero_lt_one, Bool.not_false, Bool.not_true, beq_self_eq_true, k0, k4, k5, ci, c4, c5, c7, c8, c9, hc]
      refine app_step (P := Tryz.prog) tk22 rfl tk34 tk22 rfl rfl (by decide) (n := i) (m := 1) (hA.ext _) (.inl ⟨rfl, x_hget⟩) rfl (by decide) rfl (Nat.le_trans (Nat.mul_le_mul_right _ (show i + 1 ≤ 1000001 by omega)) (by decide)) (by omega) ?_
      intro H' hg hl' hk'
      simp -implicitDefEqProofs only [go_sem, Nat.reduceAdd, Nat.reduceEqDiff, Nat.reduceLT, reduceIte, reduceCtorEq, Int.reduceLE, Int.reduceLT, Int.reduceEq, Int.reduceAdd, Int.reduceMul, Int.reduceSub, Nat.reduceMul, Nat.reduceSub, Nat.reducePow, Nat.reduceLeDiff, Int.reduceToNat, DD, x_app, x_ga0, x_gas, x_gan, Int.cast_ofNat_Int, eq_self, Int.zero_lt_one, Bool.not_false, Bool.not_true, beq_self_eq_true, k0, k4, k5, ci, c4, c5, c7, c8, c9, hc]
      exact ⟨d - (i + 1), by omega, _, _, i + 1, rfl, rfl, by omega, by simp [x_look, k0], by simp [x_look, k4], by simp [x_look], by simp only [x_look, reduceIte, Nat.reduceEqDiff]; exact ASl.lastP hg hl'⟩
theorem rtrim_s (h : RP cs n f B) (hB : B ≤ 20000) : Sat CT false 7 [.sl n cs] (PA (dg n f) f) := sat_of_hsat (rtrim_h h hB) (fun a H' q => ret_ASl q)
theorem rtrim_P (h : PB f B) (hs : Sp n f) (hn : n ≤ 1000000) (hB : B ≤ 20000) : Sat CT false 7 [PA n f] (PA (dg n f) f) := rtrim_s (RP_P h hs hn) hB
end Go.Ab

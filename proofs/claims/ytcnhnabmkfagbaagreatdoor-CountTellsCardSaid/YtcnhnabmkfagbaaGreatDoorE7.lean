/- Contracts of this seat's functions (of each call: what it answers), walked over the abstract machine, and the laws of numbers that they want. Conditions: those that each theorem states. -/
import Derived.Test.YtcnhnabmkfagbaaGreatDoorE3
set_option linter.unusedVariables false
set_option maxRecDepth 20000
set_option linter.unusedSimpArgs false
set_option linter.unusedSectionVars false
-- 
namespace Go.Ab
open Go.Proofs
open Cx (zero one)
attribute [-go_sem] appF newsF
variable {a b : AV} {z w : Cx} {B C n m : Nat} {cs ds : List AV} {f g : Po}
theorem ev_one (f : Po) (z : Cx) (i : Nat) : ev 1 (dp i f) z = f i := by rw [ev_dp, ev0, Cx.zero_mul, Cx.zero_add]
theorem rpart_s (h : PB f B) (hs : Sp n f) (hzc : CB z C) (hB : n * (C + 2) + B + C ≤ 19990) (hn0 : 0 < n) (hn : n ≤ 100000) : Sat CT false 80 [PA n f, CI z] (.tup [PA (dg n (pq n f z)) (pq n f z), CI (ev n f z)]) := by
  refine sat_of annulusref11_Part.ok (by simp) ?_
  have DD := annulusref11_Part.dr
  simp only [drP, drPx, drPt, drR, drS, drT, bodyOf, Tryz.f80, Nat.reduceEqDiff, reduceIte, true_and, and_true] at DD
  obtain ⟨N, rfl⟩ := pos_of (Nat.pos_iff_ne_zero.1 hn0)
  have hL := pcl_len (N + 1) f
  have hvb : ∀ i, CB (ev (N + 1 - i) (dp i f) z) ((N + 1) * (C + 2) + B) := fun i => (CB.ev (h.dp i) hzc (N + 1 - i)).mono (by have := Nat.mul_le_mul_right (C + 2) (show N + 1 - i ≤ N + 1 by omega); omega)
  have hqb : PB (pq (N + 1) f z) ((N + 1) * (C + 2) + B) := fun i => by
    have := hvb (i + 1)
    rwa [show N + 1 - (i + 1) = N + 1 - 1 - i by omega] at this
  have hqs : Sp N (pq (N + 1) f z) := Sp.pq N f z
  have qt := rtrim_P hqb hqs (by omega) (by omega)
  rw [dg_ind hqs (hqs.mono (Nat.le_succ N))] at qt
  have c0 : ¬ ((N + 1 : Nat) : Int) = 0 := by omega
  have cn : IntKind.i64.wrap (((N + 1 : Nat) : Int) - 1) = (N : Int) := by rw [wrap_id (by omega)]; omega
  have cn2 : IntKind.i64.wrap (((N + 1 : Nat) : Int) - 2) = (N : Int) - 1 := by rw [wrap_id (by omega)]; omega
  have d1 : (0 : Int) ≤ (N : Int) := by omega
  have d2 : (N : Int) < ((N + 1 : Nat) : Int) := by omega
  have d3 : N * 6 < (N + 1) * 6 := by omega
  have d4 : N * 6 + 6 ≤ (N + 1) * 6 := by omega
  have dt := pcl_el (n := N + 1) f (i := N) (by omega)
  simp -implicitDefEqProofs only [go_sem, Nat.reduceAdd, Nat.reduceEqDiff, Nat.reduceLT, reduceIte, reduceCtorEq, Int.reduceLE, Int.reduceLT, Int.reduceEq, Int.reduceAdd, Int.reduceMul, Int.reduceSub, Nat.reduceMul, Nat.reduceSub, Nat.reducePow, Nat.reduceLeDiff, Int.reduceToNat, Tryz.f80, DD, x_app, x_ga0, x_gas, x_gan, Int.cast_ofNat_Int, eq_self, Int.zero_lt_one, Bool.not_false, Bool.not_true, beq_self_eq_true, PA, c0, cn, cn2, d1, d2, d3, d4, hL, dt]
  refine ⟨by omega, ?_⟩
  refine loop_fk [2] aW0_mono (fun r σ => ∃ sl cells, σ = ⟨sl, [⟨CIc z, true, true⟩, ⟨zc6, true, true⟩, ⟨cells, true, true⟩, ⟨CIc (ev (N + 1 - r) (dp r f) z), true, true⟩]⟩ ∧ r ≤ N ∧ look sl 0 = .sl (N + 1) (pcl (N + 1) f) ∧ look sl 3 = .ptr 0 0 ∧ look sl 5 = .ptr 1 0 ∧ look sl 6 = .own 6 2 0 N ∧ look sl 7 = .ptr 3 0 ∧ look sl 8 = I64 ((r : Int) - 1) ∧ MR cells N (fun i => if r ≤ i then pq (N + 1) f z i else zero)) ?_ (n := N)
    ⟨_, _, by rw [show N + 1 - N = 1 by omega, ev_one]; rfl, Nat.le_refl _, by simp [x_look], by simp [x_look], by simp [x_look], by simp [x_look], by simp [x_look], by simp [x_look], (mr_zero N).congr (fun i => by
      show zero = if N ≤ i then pq (N + 1) f z i else zero
      split
      · rename_i q; exact (hqs i q).symm
      · rfl)⟩
  rintro r _ ⟨sl, cells, rfl, hr, k0, k3, k5, k6, k7, k8, hm⟩
  by_cases hr0 : r = 0
  · subst hr0
    rw [Nat.sub_zero, dp0]
    have hm := hm.congr (G := pq (N + 1) f z) (fun i => if_pos (Nat.zero_le i))
    have c1 : ¬ (0 : Int) ≤ ((0 : Nat) : Int) - 1 := by omega
    simp -implicitDefEqProofs only [go_sem, Nat.reduceAdd, Nat.reduceEqDiff, Nat.reduceLT, reduceIte, reduceCtorEq, Int.reduceLE, Int.reduceLT, Int.reduceEq, Int.reduceAdd, Int.reduceMul, Int.reduceSub, Nat.reduceMul, Nat.reduceSub, Nat.reducePow, Nat.reduceLeDiff, Int.reduceToNat, DD, x_app, x_ga0, x_gas, x_gan, Int.cast_ofNat_Int, eq_self, Int.zero_lt_one, Bool.not_false, Bool.not_true, beq_self_eq_true, k0, k3, k5, k6, k7, k8, c1, zc6, fzL]
    refine callK_fz annulusref11_Trim.call qt (.inr ⟨2, rfl, rfl, hm.1⟩) hm.snp (isD_pcl _ _) rfl ?_
    simp -implicitDefEqProofs only [go_sem, Nat.reduceAdd, Nat.reduceEqDiff, Nat.reduceLT, reduceIte, reduceCtorEq, Int.reduceLE, Int.reduceLT, Int.reduceEq, Int.reduceAdd, Int.reduceMul, Int.reduceSub, Nat.reduceMul, Nat.reduceSub, Nat.reducePow, Nat.reduceLeDiff, Int.reduceToNat, DD, x_app, x_ga0, x_gas, x_gan, Int.cast_ofNat_Int, eq_self, Int.zero_lt_one, Bool.not_false, Bool.not_true, beq_self_eq_true, WI, IA, DI, DA, CI, k0, k3, k5, k6, k7, k8, c1, zc6, CIc, fzL]
    exact ⟨trivial, pld_tup2 (pld_PA _ _) (pld_CI _), rfl⟩
  · obtain ⟨i, rfl⟩ := pos_of hr0
    have c1 : ((i + 1 : Nat) : Int) - 1 = (i : Int) := by omega
    rw [c1] at k8
    have c2 : (0 : Int) ≤ (i : Int) := by omega
    have c3 : (i : Int) < (N : Int) := by omega
    have c3' : (i : Int) < ((N + 1 : Nat) : Int) := by omega
    have c4 : i * 6 < (N + 1) * 6 := by omega
    have c5 : i * 6 + 6 ≤ (N + 1) * 6 := by omega
    have c6 : i * 6 + 6 ≤ cells.length := by have := hm.1; omega
    have cw : IntKind.i64.wrap ((i : Int) - 1) = (i : Int) - 1 := wrap_id (by omega)
    have hev : ev (N + 1 - i) (dp i f) z = ev (N + 1 - (i + 1)) (dp (i + 1) f) z * z + f i := by rw [show N + 1 - i = N + 1 - (i + 1) + 1 by omega, ev_dp]
    have hc := pcl_el (n := N + 1) f (show i < N + 1 by omega)
    have q1 := rmul8 (hvb (i + 1)) hzc (by omega)
    have q2 := radd8 ((hvb (i + 1)).mul hzc) (h i) (by omega) (by omega)
    rw [← hev] at q2
    have hm2 := hm.set (s0 := i) (by omega) (ev (N + 1 - (i + 1)) (dp (i + 1) f) z)
    have hm2 := hm2.congr (G := fun j => if i ≤ j then pq (N + 1) f z j else zero) (fun j => by
      show (if j = i then ev (N + 1 - (i + 1)) (dp (i + 1) f) z else if i + 1 ≤ j then pq (N + 1) f z j else zero) = if i ≤ j then pq (N + 1) f z j else zero
      by_cases e1 : j = i
      · rw [if_pos e1, if_pos (by omega), e1]; show _ = ev (N + 1 - 1 - i) _ z; rw [show N + 1 - (i + 1) = N + 1 - 1 - i by omega]
      · rw [if_neg e1]
        by_cases e2 : i ≤ j
        · rw [if_pos (by omega), if_pos e2]
        · rw [if_neg (by omega), if_neg e2])
    simp -implicitDefEqProofs only [go_sem, Nat.reduceAdd, Nat.reduceEqDiff, Nat.reduceLT, reduceIte, reduceCtorEq, Int.reduceLE, Int.reduceLT, Int.reduceEq, Int.reduceAdd, Int.reduceMul, Int.reduceSub, Nat.reduceMul, Nat.reduceSub, Nat.reducePow, Nat.reduceLeDiff, Int.reduceToNat, DD, x_app, x_ga0, x_gas, x_gan, Int.cast_ofNat_Int, eq_self, Int.zero_lt_one, Bool.not_false, Bool.not_true, beq_self_eq_true, k0, k3, k5, k6, k7, k8, c2, c3, c3', c4, c5, c6, cw, hc, hL]
    refine callK_pl annulusref8_Mul.call (q1) (pl2 (pld_CI _) (pld_CI _)) ?_
    simp -implicitDefEqProofs only [go_sem, Nat.reduceAdd, Nat.reduceEqDiff, Nat.reduceLT, reduceIte, reduceCtorEq, Int.reduceLE, Int.reduceLT, Int.reduceEq, Int.reduceAdd, Int.reduceMul, Int.reduceSub, Nat.reduceMul, Nat.reduceSub, Nat.reducePow, Nat.reduceLeDiff, Int.reduceToNat, DD, x_app, x_ga0, x_gas, x_gan, Int.cast_ofNat_Int, eq_self, Int.zero_lt_one, Bool.not_false, Bool.not_true, beq_self_eq_true, k0, k3, k5, k6, k7, k8, c2, c3, c3', c4, c5, c6, cw, hc, hL]
    refine callK_pl annulusref8_Add.call (q2) (pl2 (pld_CI _) (pld_CI _)) ?_
    simp -implicitDefEqProofs only [go_sem, Nat.reduceAdd, Nat.reduceEqDiff, Nat.reduceLT, reduceIte, reduceCtorEq, Int.reduceLE, Int.reduceLT, Int.reduceEq, Int.reduceAdd, Int.reduceMul, Int.reduceSub, Nat.reduceMul, Nat.reduceSub, Nat.reducePow, Nat.reduceLeDiff, Int.reduceToNat, DD, x_app, x_ga0, x_gas, x_gan, Int.cast_ofNat_Int, eq_self, Int.zero_lt_one, Bool.not_false, Bool.not_true, beq_self_eq_true, k0, k3, k5, k6, k7, k8, c2, c3, c3', c4, c5, c6, cw, hc, hL]
    exact ⟨i, by omega, _, _, rfl, by omega, by simp [x_look, k0], by simp [x_look, k3], by simp [x_look, k5], by simp [x_look, k6], by simp [x_look, k7], by simp [x_look], hm2⟩
theorem rshift_s (h : PB f B) (hs : Sp n f) (hself : dg n f = n) (hzb : CB z C) (hB : B + n * C + 2 * n * n + n * (C + 2) + C ≤ 19990) (hn : n ≤ 100000) : Sat CT false 47 [PA n f, CI z] (PA n (shf n f z)) := by
  refine sat_of annulusref11_Shift.ok (by simp) ?_
  have DD := annulusref11_Shift.dr
  simp only [drP, drPx, drPt, drR, drS, drT, bodyOf, Tryz.f47, Nat.reduceEqDiff, reduceIte, true_and, and_true] at DD
  have hwb := h.wb (C := C) hs
  have hI : ∀ i, i ≤ n → PB (pqI n f z i) (B + n * C + 2 * n * n) := fun i hi => ((hwb.pqI hzb i).pb).mono (Nat.add_le_add_left (Nat.mul_le_mul_left (2 * n) hi) _)
  have hO : PB (shf n f z) (B + n * C + 2 * n * n) := hwb.shf n hzb
  have qe : ∀ i, i < n → Sat CT false 80 [PA (n - i) (pqI n f z i), CI z] (.tup [PA (n - (i + 1)) (pqI n f z (i + 1)), CI (shf n f z i)]) := fun i hi => by
    obtain ⟨t1, t2⟩ := pqI_top z hs hself i (by omega)
    have m4 := Nat.mul_le_mul_right (C + 2) (show n - i ≤ n by omega)
    have q := rpart_s (hI i (by omega)) t1 hzb (by omega) (by omega) (by omega)
    obtain ⟨t3, t4⟩ := pqI_top z hs hself (i + 1) hi
    rw [← pqIS, ← shf_at n f z i hi, dg_ind (t3.mono (by omega)) t3, t4] at q
    exact q
  have qt := rtrim_P hO (Sp.shf n f z) (by omega) (by omega)
  rw [dg_shf hs hself] at qt
  simp -implicitDefEqProofs only [go_sem, Nat.reduceAdd, Nat.reduceEqDiff, Nat.reduceLT, reduceIte, reduceCtorEq, Int.reduceLE, Int.reduceLT, Int.reduceEq, Int.reduceAdd, Int.reduceMul, Int.reduceSub, Nat.reduceMul, Nat.reduceSub, Nat.reducePow, Nat.reduceLeDiff, Int.reduceToNat, Tryz.f47, DD, x_app, x_ga0, x_gas, x_gan, Int.cast_ofNat_Int, eq_self, Int.zero_lt_one, Bool.not_false, Bool.not_true, beq_self_eq_true]
  refine loop_of aW0_mono (fun q σ => ∃ sl H i, σ = ⟨sl, H⟩ ∧ q = n - i ∧ i ≤ n ∧ look sl 3 = .ptr 0 0 ∧ look sl 6 = PA (n - i) (pqI n f z i) ∧ 0 < H.length ∧ H.getD 0 ⟨[], false, false⟩ = ⟨CIc z, true, true⟩ ∧ ASl 6 (look sl 5) H (pcl i (shf n f z)) i ∧ ∀ x, look sl 5 ≠ .own 6 0 0 x) ?_ (n := n)
    ⟨_, _, 0, rfl, rfl, Nat.zero_le _, by simp [x_look], by simp only [x_look, reduceIte, Nat.reduceEqDiff, pqI0]; rfl, by simp, rfl, by simp [x_look, pcl0, ASl.nil], fun x e => by simp [x_look] at e⟩
  rintro q _ ⟨sl, H, i, rfl, rfl, hi, k3, k6, hH, hg0, hA, hne⟩
  have hP : PA (n - i) (pqI n f z i) = .sl (n - i) (pcl (n - i) (pqI n f z i)) := rfl
  by_cases hid : i = n
  · subst hid
    have c1 : ((i - i : Nat) : Int) = 0 := by omega
    simp -implicitDefEqProofs only [go_sem, Nat.reduceAdd, Nat.reduceEqDiff, Nat.reduceLT, reduceIte, reduceCtorEq, Int.reduceLE, Int.reduceLT, Int.reduceEq, Int.reduceAdd, Int.reduceMul, Int.reduceSub, Nat.reduceMul, Nat.reduceSub, Nat.reducePow, Nat.reduceLeDiff, Int.reduceToNat, DD, x_app, x_ga0, x_gas, x_gan, Int.cast_ofNat_Int, eq_self, Int.zero_lt_one, Bool.not_false, Bool.not_true, beq_self_eq_true, k3, k6, hP, c1, Int.lt_irrefl]
    refine callK_ar annulusref11_Trim.call (qt) (.cons (.row hA.rsl (snap0_pcl _ _) (isD_pcl _ _)) .nil) rfl ?_
    intro H' _
    simp -implicitDefEqProofs only [go_sem, Nat.reduceAdd, Nat.reduceEqDiff, Nat.reduceLT, reduceIte, reduceCtorEq, Int.reduceLE, Int.reduceLT, Int.reduceEq, Int.reduceAdd, Int.reduceMul, Int.reduceSub, Nat.reduceMul, Nat.reduceSub, Nat.reducePow, Nat.reduceLeDiff, Int.reduceToNat, DD, x_app, x_ga0, x_gas, x_gan, Int.cast_ofNat_Int, eq_self, Int.zero_lt_one, Bool.not_false, Bool.not_true, beq_self_eq_true, k3, k6, hP]
    exact ⟨trivial, isD_PA _ _, rfl⟩
  · have c1 : (0 : Int) < ((n - i : Nat) : Int) := by omega
    have g0 : ∀ y, (H ++ [y]).getD 0 ⟨[], false, false⟩ = ⟨CIc z, true, true⟩ := fun y => by rw [getD_hp hH]; exact hg0
    simp -implicitDefEqProofs only [go_sem, Nat.reduceAdd, Nat.reduceEqDiff, Nat.reduceLT, reduceIte, reduceCtorEq, Int.reduceLE, Int.reduceLT, Int.reduceEq, Int.reduceAdd, Int.reduceMul, Int.reduceSub, Nat.reduceMul, Nat.reduceSub, Nat.reducePow, Nat.reduceLeDiff, Int.reduceToNat, DD, x_app, x_ga0, x_gas, x_gan, Int.cast_ofNat_Int, eq_self, Int.zero_lt_one, Bool.not_false, Bool.not_true, beq_self_eq_true, k3, k6, hP, c1, hg0, g0]
    refine callK_pl annulusref11_Part.call (qe i (by omega)) (pl2 (pld_PA _ _) (pld_CI _)) ?_
    simp -implicitDefEqProofs only [go_sem, Nat.reduceAdd, Nat.reduceEqDiff, Nat.reduceLT, reduceIte, reduceCtorEq, Int.reduceLE, Int.reduceLT, Int.reduceEq, Int.reduceAdd, Int.reduceMul, Int.reduceSub, Nat.reduceMul, Nat.reduceSub, Nat.reducePow, Nat.reduceLeDiff, Int.reduceToNat, DD, x_app, x_ga0, x_gas, x_gan, Int.cast_ofNat_Int, eq_self, Int.zero_lt_one, Bool.not_false, Bool.not_true, beq_self_eq_true, k3, k6, hP, c1, hg0, g0]
    refine app_step (P := Tryz.prog) tk22 rfl tk29 tk22 rfl rfl (by decide) (n := i) (m := 1) ((hA.ext _).ext _) (.inl ⟨rfl, x_hget⟩) rfl (by decide) rfl (Nat.le_trans (Nat.mul_le_mul_right _ (show i + 1 ≤ 1000001 by omega)) (by decide)) (by omega) ?_
    intro H' hg hl' hk'
    have g2 : H'.getD 0 ⟨[], false, false⟩ = ⟨CIc z, true, true⟩ := by rw [hk' 0 (by simp) (hne i), getD_hp (by simp)]; exact g0 _
    have hlen : H'.length = H.length + 3 := by rw [hl']; simp
    simp -implicitDefEqProofs only [go_sem, Nat.reduceAdd, Nat.reduceEqDiff, Nat.reduceLT, reduceIte, reduceCtorEq, Int.reduceLE, Int.reduceLT, Int.reduceEq, Int.reduceAdd, Int.reduceMul, Int.reduceSub, Nat.reduceMul, Nat.reduceSub, Nat.reducePow, Nat.reduceLeDiff, Int.reduceToNat, DD, x_app, x_ga0, x_gas, x_gan, Int.cast_ofNat_Int, eq_self, Int.zero_lt_one, Bool.not_false, Bool.not_true, beq_self_eq_true, k3, k6, hP, c1, hg0, g0]
    exact ⟨n - (i + 1), by omega, _, _, i + 1, rfl, rfl, by omega, by simp [x_look, k3], by simp only [x_look, reduceIte, Nat.reduceEqDiff], by omega, g2, by simp only [x_look, reduceIte, Nat.reduceEqDiff]; exact ASl.lastP (g := shf n f z) hg hl', fun x e => by simp [x_look] at e⟩
end Go.Ab

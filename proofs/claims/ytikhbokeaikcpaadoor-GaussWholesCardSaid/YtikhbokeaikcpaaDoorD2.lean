/- Contracts of this seat's functions (of each call: what it answers), walked over the abstract machine, and the laws of numbers that they want. Conditions: those that each theorem states. -/
import Derived.Test.YtikhbokeaikcpaaDoorD1
set_option linter.unusedVariables false
set_option maxRecDepth 20000
set_option linter.unusedSimpArgs false
namespace Go.Ab
open Go.Proofs

variable {a b : AV} {x y : Dyadic} {B C : Nat}
theorem pow2_lt {N k m : Nat} (h : Lt2 N k) (hk : k ≤ m) : Lt2 N m := Nat.lt_of_lt_of_le h (Nat.pow_le_pow_right (by decide) hk)
theorem Lt2.le {N M k : Nat} (h : N ≤ M) (g : Lt2 M k) : Lt2 N k := Nat.lt_of_le_of_lt h g
theorem pow2_add {N M k : Nat} (h : Lt2 N k) (g : Lt2 M k) : Lt2 (N + M) (k + 1) := by unfold Lt2 at *; rw [Nat.pow_succ]; omega
theorem len_pow2 {N k : Nat} (h : Lt2 N k) : (lim N).length ≤ k := by
  refine lim_length_le (Nat.lt_of_lt_of_le h ?_)
  rw [show (4294967296 : Nat) = 2 ^ 32 from rfl, ← Nat.pow_mul]
  exact Nat.pow_le_pow_right (by decide) (by omega)
theorem RD.neg {n : Bool} {l : List Nat} {e : Int} (hl : Lm l) (hv : Lt2 (nv l) (2 * B)) (hL : l.length ≤ B) (he : e.natAbs ≤ B) (h : DB (dv (iv n l) e) B) : ∃ n' l', WI (-iv n l) = IA n' l' ∧ RD (DA n' l' e) (-dv (iv n l) e) B := by
  refine ⟨_, _, rfl, _, _, _, rfl, Lm_lim _, by rw [iv_W, dv_neg], ?_, ?_, he, h.neg⟩
  · rw [nv_lim, Int.natAbs_neg, abs_iv]; exact hv
  · rw [Int.natAbs_neg, abs_iv, ← cutL_lim hl]; exact Nat.le_trans (cutL_length l) hL
theorem sign_dv {n : Bool} {l : List Nat} {e : Int} : (dnum (dv (iv n l) e)).sign = (iv n l).sign := by
  by_cases h : nv l = 0
  · have e0 : iv n l = 0 := by unfold iv; rw [h]; cases n <;> rfl
    rw [e0]; rfl
  · obtain ⟨t, m, hN⟩ := tz_ex h
    obtain ⟨o, ho, ho1⟩ : ∃ o : Int, iv n l = o * 2 ^ t ∧ o % 2 = 1 := by
      unfold iv
      cases n
      · refine ⟨((2 * m + 1 : Nat) : Int), ?_, by omega⟩
        rw [if_neg (by simp), hN, Int.natCast_mul, Int.mul_comm, Int.natCast_pow]; rfl
      · refine ⟨-((2 * m + 1 : Nat) : Int), ?_, by omega⟩
        rw [if_pos rfl, hN, Int.natCast_mul, Int.mul_comm, Int.natCast_pow, Int.neg_mul]; rfl
    rw [ho, dv_shift, dnum_odd ho1, Int.sign_mul, show ((2 : Int) ^ t).sign = 1 from Int.sign_eq_one_of_pos (Int.pow_pos (by decide)), Int.mul_one]
theorem sg_zero {d : Dyadic} (h : d = 0) : (dnum d).sign = 0 := by rw [h]; rfl
theorem sg_ne {d : Dyadic} (h : ¬ d = 0) : ¬ (dnum d).sign = 0 := fun e => h (dnum_zero.1 (Int.sign_eq_zero_iff_zero.1 e))
theorem big_up {z : Int} {k B : Nat} (h : Lt2 z.natAbs (2 * B)) : Lt2 (z * 2 ^ k).natAbs (2 * B + k) := by
  unfold Lt2 at *
  rw [Int.natAbs_mul, Int.natAbs_pow, Nat.pow_add]
  exact Nat.mul_lt_mul_of_pos_right h (Nat.two_pow_pos k)

theorem kept_sat (e : Int) (h : e.natAbs ≤ 2097152) : Sat CT false 73 [I64 e] (I64 e) := by
  refine sat_of dyad_kept.ok (by simp) ?_
  have DD := dyad_kept.dr
  simp only [drP, drPx, drPt, drR, drS, drT, bodyOf, Tryd.f73, Nat.reduceEqDiff, reduceIte, true_and, and_true] at DD
  have c1 : min (max e (-2097152)) 2097152 = e := by omega
  simp -implicitDefEqProofs only [go_sem, simprocAttr, -Int.reducePow, Tryd.f73, DD, beq_self_eq_true, Bool.not_false, Bool.not_true, WI, IA, DI, DA, c1]
theorem dheld_sat (e : Int) (h : e.natAbs ≤ 20000) : Sat CT false 74 [I64 e] (I64 e) := by
  refine sat_of dyad_held.ok (by simp) ?_
  have DD := dyad_held.dr
  simp only [drP, drPx, drPt, drR, drS, drT, bodyOf, Tryd.f74, Nat.reduceEqDiff, reduceIte, true_and, and_true] at DD
  have c1 : min (max e (-20000)) 20000 = e := by omega
  simp -implicitDefEqProofs only [go_sem, simprocAttr, -Int.reducePow, Tryd.f74, DD, beq_self_eq_true, Bool.not_false, Bool.not_true, WI, IA, DI, DA, c1]
theorem wup_sat (n : Bool) (l : List Nat) (k : Nat) (hl : Lm l) (hla : l.length < 1099511) (hk : k ≤ 100000) : Sat CT false 80 [IA n l, I64 (k : Nat)] (WI (iv n l * 2 ^ k)) := by
  refine sat_of whole_Up.ok (by simp) ?_
  have DD := whole_Up.dr
  simp only [drP, drPx, drPt, drR, drS, drT, bodyOf, Tryd.f80, Nat.reduceEqDiff, reduceIte, true_and, and_true] at DD
  rw [← iv_shl]
  have g := lim_shl_len (L := 1099511) hl (by omega) k
  simp -implicitDefEqProofs only [go_sem, simprocAttr, -Int.reducePow, Tryd.f80, DD, beq_self_eq_true, Bool.not_false, Bool.not_true, WI, IA, DI, DA]
  refine callK_of false nat_Up.call (up_sat l k hl (by omega) hk) rfl rfl (by simp [ownOK, own1, hd, fzH, fzArgs, fzCells, fz, IA, WI, DI, DA, U32]) (by simp [U32, isD_u32, isD_v, isD_nil, isD_agg, IA, WI, DI, DA]) ?_
  simp -implicitDefEqProofs only [go_sem, simprocAttr, -Int.reducePow, DD, x_app, x_ga0, x_gas, x_gan, Int.cast_ofNat_Int, eq_self, Int.zero_lt_one, Bool.not_false, Bool.not_true, beq_self_eq_true, WI, IA, DI, DA]
  refine callK_of false whole_with.call (with_sat n _ (Lm_lim _) (by omega)) rfl rfl (by simp [ownOK, own1, hd, fzH, fzArgs, fzCells, fz, IA, WI, DI, DA, U32]) (by simp [U32, isD_u32, isD_v, isD_nil, isD_agg, IA, WI, DI, DA]) ?_
  simp -implicitDefEqProofs only [go_sem, simprocAttr, -Int.reducePow, DD, x_app, x_ga0, x_gas, x_gan, Int.cast_ofNat_Int, eq_self, Int.zero_lt_one, Bool.not_false, Bool.not_true, beq_self_eq_true, WI, IA, DI, DA]
theorem dof_w (ha : RD a x B) (hB : B ≤ 24100) : Sat CT false 78 [a] (DI x) := by
  refine sat_of dyad_of.ok (by simp) ?_
  have DD := dyad_of.dr
  simp only [drP, drPx, drPt, drR, drS, drT, bodyOf, Tryd.f78, Nat.reduceEqDiff, reduceIte, true_and, and_true] at DD
  obtain ⟨n, l, e, rfl, hl, rfl, hv, hL, he, hdb⟩ := ha
  have q1 := kept_sat e (by omega)
  have q2 := raw_sat n l e hl (by omega) (pow2_lt hv (by omega)) (by omega)
  simp -implicitDefEqProofs only [go_sem, simprocAttr, -Int.reducePow, Tryd.f78, DD, beq_self_eq_true, Bool.not_false, Bool.not_true, WI, IA, DI, DA]
  refine callK_of false dyad_kept.call (q1) rfl rfl (by simp [ownOK, own1, hd, fzH, fzArgs, fzCells, fz, IA, WI, DI, DA, U32]) (by simp [U32, isD_u32, isD_v, isD_nil, isD_agg, IA, WI, DI, DA]) ?_
  simp -implicitDefEqProofs only [go_sem, simprocAttr, -Int.reducePow, DD, x_app, x_ga0, x_gas, x_gan, Int.cast_ofNat_Int, eq_self, Int.zero_lt_one, Bool.not_false, Bool.not_true, beq_self_eq_true, WI, IA, DI, DA]
  refine callK_of false dyad_Raw.call (q2) rfl rfl (by simp [ownOK, own1, hd, fzH, fzArgs, fzCells, fz, IA, WI, DI, DA, U32]) (by simp [U32, isD_u32, isD_v, isD_nil, isD_agg, IA, WI, DI, DA]) ?_
  simp -implicitDefEqProofs only [go_sem, simprocAttr, -Int.reducePow, DD, x_app, x_ga0, x_gas, x_gan, Int.cast_ofNat_Int, eq_self, Int.zero_lt_one, Bool.not_false, Bool.not_true, beq_self_eq_true, WI, IA, DI, DA]
theorem dsign_w (ha : RD a x B) (hB : B ≤ 24100) : Sat CT false 54 [a] (I64 (dnum x).sign) := by
  refine sat_of dyad_Sign.ok (by simp) ?_
  have DD := dyad_Sign.dr
  simp only [drP, drPx, drPt, drR, drS, drT, bodyOf, Tryd.f54, Nat.reduceEqDiff, reduceIte, true_and, and_true] at DD
  obtain ⟨n, l, e, rfl, hl, rfl, hv, hL, he, hdb⟩ := ha
  have q1 := wsign_sat n l hl (by omega)
  rw [← sign_dv (e := e)] at q1
  simp -implicitDefEqProofs only [go_sem, simprocAttr, -Int.reducePow, Tryd.f54, DD, beq_self_eq_true, Bool.not_false, Bool.not_true, WI, IA, DI, DA]
  refine callK_of false whole_Sign.call (q1) rfl rfl (by simp [ownOK, own1, hd, fzH, fzArgs, fzCells, fz, IA, WI, DI, DA, U32]) (by simp [U32, isD_u32, isD_v, isD_nil, isD_agg, IA, WI, DI, DA]) ?_
  simp -implicitDefEqProofs only [go_sem, simprocAttr, -Int.reducePow, DD, x_app, x_ga0, x_gas, x_gan, Int.cast_ofNat_Int, eq_self, Int.zero_lt_one, Bool.not_false, Bool.not_true, beq_self_eq_true, WI, IA, DI, DA]
theorem dsign_r (ha : RD a x B) (hB : B ≤ 20000) : Sat CT false 54 [a] (I64 (dnum x).sign) := dsign_w ha (Nat.le_trans hB (by decide))
theorem rsign4_r (ha : RD a x B) (hB : B ≤ 20000) : Sat CT false 28 [a] (I64 (dnum x).sign) := by
  refine sat_of annulusref4_Sign.ok (by simp) ?_
  have DD := annulusref4_Sign.dr
  simp only [drP, drPx, drPt, drR, drS, drT, bodyOf, Tryd.f28, Nat.reduceEqDiff, reduceIte, true_and, and_true] at DD
  obtain ⟨n, l, e, rfl, hl, rfl, hv, hL, he, hdb⟩ := ha
  have q1 := rsign_sat n l hl (by omega)
  rw [← sign_dv (e := e)] at q1
  simp -implicitDefEqProofs only [go_sem, simprocAttr, -Int.reducePow, Tryd.f28, DD, beq_self_eq_true, Bool.not_false, Bool.not_true, WI, IA, DI, DA]
  refine callK_of false annulusref1_Sign.call (q1) rfl rfl (by simp [ownOK, own1, hd, fzH, fzArgs, fzCells, fz, IA, WI, DI, DA, U32]) (by simp [U32, isD_u32, isD_v, isD_nil, isD_agg, IA, WI, DI, DA]) ?_
  simp -implicitDefEqProofs only [go_sem, simprocAttr, -Int.reducePow, DD, x_app, x_ga0, x_gas, x_gan, Int.cast_ofNat_Int, eq_self, Int.zero_lt_one, Bool.not_false, Bool.not_true, beq_self_eq_true, WI, IA, DI, DA]
theorem dadd_w (ha : RD a x B) (hb : RD b y C) (hB : B ≤ 24100) (hC : C ≤ 24100) : Sat CT false 50 [a, b] (DI (x + y)) := by
  refine sat_of dyad_Add.ok (by simp) ?_
  have DD := dyad_Add.dr
  simp only [drP, drPx, drPt, drR, drS, drT, bodyOf, Tryd.f50, Nat.reduceEqDiff, reduceIte, true_and, and_true] at DD
  have q1 := dof_w ha hB
  have q2 := dof_w hb hC
  have s1 := dsign_w (RD_D ha.db) hB
  have s2 := dsign_w (RD_D hb.db) hC
  have hdx := ha.db
  have hdy := hb.db
  obtain ⟨n, l, e, rfl, _⟩ := ha
  obtain ⟨m, k, f, rfl, _⟩ := hb
  by_cases hx : x = 0
  · rw [show x + y = y by rw [hx, Dyadic.zero_add]]
    have c1 := sg_zero hx
    simp -implicitDefEqProofs only [go_sem, simprocAttr, -Int.reducePow, Tryd.f50, DD, beq_self_eq_true, Bool.not_false, Bool.not_true, WI, IA, DI, DA, c1]
    refine callK_of false dyad_of.call (q1) rfl rfl (by simp [ownOK, own1, hd, fzH, fzArgs, fzCells, fz, IA, WI, DI, DA, U32]) (by simp [U32, isD_u32, isD_v, isD_nil, isD_agg, IA, WI, DI, DA]) ?_
    simp -implicitDefEqProofs only [go_sem, simprocAttr, -Int.reducePow, DD, x_app, x_ga0, x_gas, x_gan, Int.cast_ofNat_Int, eq_self, Int.zero_lt_one, Bool.not_false, Bool.not_true, beq_self_eq_true, WI, IA, DI, DA, c1]
    refine callK_of false dyad_of.call (q2) rfl rfl (by simp [ownOK, own1, hd, fzH, fzArgs, fzCells, fz, IA, WI, DI, DA, U32]) (by simp [U32, isD_u32, isD_v, isD_nil, isD_agg, IA, WI, DI, DA]) ?_
    simp -implicitDefEqProofs only [go_sem, simprocAttr, -Int.reducePow, DD, x_app, x_ga0, x_gas, x_gan, Int.cast_ofNat_Int, eq_self, Int.zero_lt_one, Bool.not_false, Bool.not_true, beq_self_eq_true, WI, IA, DI, DA, c1]
    refine callK_of false dyad_Sign.call (s1) rfl rfl (by simp [ownOK, own1, hd, fzH, fzArgs, fzCells, fz, IA, WI, DI, DA, U32]) (by simp [U32, isD_u32, isD_v, isD_nil, isD_agg, IA, WI, DI, DA]) ?_
    simp -implicitDefEqProofs only [go_sem, simprocAttr, -Int.reducePow, DD, x_app, x_ga0, x_gas, x_gan, Int.cast_ofNat_Int, eq_self, Int.zero_lt_one, Bool.not_false, Bool.not_true, beq_self_eq_true, WI, IA, DI, DA, c1]
  · have c1 := sg_ne hx
    by_cases hy : y = 0
    · rw [show x + y = x by rw [hy, Dyadic.add_zero]]
      have c2 := sg_zero hy
      simp -implicitDefEqProofs only [go_sem, simprocAttr, -Int.reducePow, Tryd.f50, DD, beq_self_eq_true, Bool.not_false, Bool.not_true, WI, IA, DI, DA, c1, c2]
      refine callK_of false dyad_of.call (q1) rfl rfl (by simp [ownOK, own1, hd, fzH, fzArgs, fzCells, fz, IA, WI, DI, DA, U32]) (by simp [U32, isD_u32, isD_v, isD_nil, isD_agg, IA, WI, DI, DA]) ?_
      simp -implicitDefEqProofs only [go_sem, simprocAttr, -Int.reducePow, DD, x_app, x_ga0, x_gas, x_gan, Int.cast_ofNat_Int, eq_self, Int.zero_lt_one, Bool.not_false, Bool.not_true, beq_self_eq_true, WI, IA, DI, DA, c1, c2]
      refine callK_of false dyad_of.call (q2) rfl rfl (by simp [ownOK, own1, hd, fzH, fzArgs, fzCells, fz, IA, WI, DI, DA, U32]) (by simp [U32, isD_u32, isD_v, isD_nil, isD_agg, IA, WI, DI, DA]) ?_
      simp -implicitDefEqProofs only [go_sem, simprocAttr, -Int.reducePow, DD, x_app, x_ga0, x_gas, x_gan, Int.cast_ofNat_Int, eq_self, Int.zero_lt_one, Bool.not_false, Bool.not_true, beq_self_eq_true, WI, IA, DI, DA, c1, c2]
      refine callK_of false dyad_Sign.call (s1) rfl rfl (by simp [ownOK, own1, hd, fzH, fzArgs, fzCells, fz, IA, WI, DI, DA, U32]) (by simp [U32, isD_u32, isD_v, isD_nil, isD_agg, IA, WI, DI, DA]) ?_
      simp -implicitDefEqProofs only [go_sem, simprocAttr, -Int.reducePow, DD, x_app, x_ga0, x_gas, x_gan, Int.cast_ofNat_Int, eq_self, Int.zero_lt_one, Bool.not_false, Bool.not_true, beq_self_eq_true, WI, IA, DI, DA, c1, c2]
      refine callK_of false dyad_Sign.call (s2) rfl rfl (by simp [ownOK, own1, hd, fzH, fzArgs, fzCells, fz, IA, WI, DI, DA, U32]) (by simp [U32, isD_u32, isD_v, isD_nil, isD_agg, IA, WI, DI, DA]) ?_
      simp -implicitDefEqProofs only [go_sem, simprocAttr, -Int.reducePow, DD, x_app, x_ga0, x_gas, x_gan, Int.cast_ofNat_Int, eq_self, Int.zero_lt_one, Bool.not_false, Bool.not_true, beq_self_eq_true, WI, IA, DI, DA, c1, c2]
    · have c2 := sg_ne hy
      have hx1 := hdx.num
      have hy1 := hdy.num
      obtain ⟨k1, k2, hk1, hk2, hb1, hb2⟩ : ∃ k1 k2 : Nat, dexp x = min (dexp x) (dexp y) + k1 ∧ dexp y = min (dexp x) (dexp y) + k2 ∧ k1 ≤ B + C ∧ k2 ≤ B + C := ⟨(dexp x - min (dexp x) (dexp y)).toNat, (dexp y - min (dexp x) (dexp y)).toNat, by omega, by omega, by omega, by omega⟩
      have hmin : (min (dexp x) (dexp y)).natAbs ≤ 24100 := by omega
      have c3 : IntKind.i64.wrap (dexp x - min (dexp x) (dexp y)) = ((k1 : Nat) : Int) := by rw [wrap_id (by omega)]; omega
      have c4 : IntKind.i64.wrap (dexp y - min (dexp x) (dexp y)) = ((k2 : Nat) : Int) := by rw [wrap_id (by omega)]; omega
      have p1 := pow2_lt (big_up (k := k1) hx1.1) (m := 98000) (by omega)
      have p2 := pow2_lt (big_up (k := k2) hy1.1) (m := 98000) (by omega)
      have p3 : Lt2 (dnum x * 2 ^ k1 + dnum y * 2 ^ k2).natAbs 98001 := Lt2.le (Int.natAbs_add_le _ _) (pow2_add p1 p2)
      have l1 := len_pow2 p1
      have l2 := len_pow2 p2
      have l3 := len_pow2 p3
      have lx := len_pow2 hx1.1
      have ly := len_pow2 hy1.1
      have u1 := wup_sat (decide (dnum x < 0)) (lim (dnum x).natAbs) k1 (Lm_lim _) (by omega) (by omega)
      have u2 := wup_sat (decide (dnum y < 0)) (lim (dnum y).natAbs) k2 (Lm_lim _) (by omega) (by omega)
      rw [iv_num] at u1
      rw [iv_num] at u2
      have a1 := add_r (RI_W (z := dnum x * 2 ^ k1) l1) (RI_W (z := dnum y * 2 ^ k2) l2) (by omega) (by omega)
      have r1 := raw_sat (decide (dnum x * 2 ^ k1 + dnum y * 2 ^ k2 < 0)) (lim (dnum x * 2 ^ k1 + dnum y * 2 ^ k2).natAbs) (min (dexp x) (dexp y)) (Lm_lim _) (by omega) (by rw [nv_lim]; exact pow2_lt p3 (by omega)) (by omega)
      rw [iv_W] at r1
      have hs : dv (dnum x * 2 ^ k1 + dnum y * 2 ^ k2) (min (dexp x) (dexp y)) = x + y := by rw [← dv_add, dv_shift, dv_shift, ← hk1, ← hk2, dv_of, dv_of]
      rw [hs] at r1
      clear hs p1 p2 p3
      simp -implicitDefEqProofs only [go_sem, simprocAttr, -Int.reducePow, Tryd.f50, DD, beq_self_eq_true, Bool.not_false, Bool.not_true, WI, IA, DI, DA, c1, c2, c3, c4]
      refine callK_of false dyad_of.call (q1) rfl rfl (by simp [ownOK, own1, hd, fzH, fzArgs, fzCells, fz, IA, WI, DI, DA, U32]) (by simp [U32, isD_u32, isD_v, isD_nil, isD_agg, IA, WI, DI, DA]) ?_
      simp -implicitDefEqProofs only [go_sem, simprocAttr, -Int.reducePow, DD, x_app, x_ga0, x_gas, x_gan, Int.cast_ofNat_Int, eq_self, Int.zero_lt_one, Bool.not_false, Bool.not_true, beq_self_eq_true, WI, IA, DI, DA, c1, c2, c3, c4]
      refine callK_of false dyad_of.call (q2) rfl rfl (by simp [ownOK, own1, hd, fzH, fzArgs, fzCells, fz, IA, WI, DI, DA, U32]) (by simp [U32, isD_u32, isD_v, isD_nil, isD_agg, IA, WI, DI, DA]) ?_
      simp -implicitDefEqProofs only [go_sem, simprocAttr, -Int.reducePow, DD, x_app, x_ga0, x_gas, x_gan, Int.cast_ofNat_Int, eq_self, Int.zero_lt_one, Bool.not_false, Bool.not_true, beq_self_eq_true, WI, IA, DI, DA, c1, c2, c3, c4]
      refine callK_of false dyad_Sign.call (s1) rfl rfl (by simp [ownOK, own1, hd, fzH, fzArgs, fzCells, fz, IA, WI, DI, DA, U32]) (by simp [U32, isD_u32, isD_v, isD_nil, isD_agg, IA, WI, DI, DA]) ?_
      simp -implicitDefEqProofs only [go_sem, simprocAttr, -Int.reducePow, DD, x_app, x_ga0, x_gas, x_gan, Int.cast_ofNat_Int, eq_self, Int.zero_lt_one, Bool.not_false, Bool.not_true, beq_self_eq_true, WI, IA, DI, DA, c1, c2, c3, c4]
      refine callK_of false dyad_Sign.call (s2) rfl rfl (by simp [ownOK, own1, hd, fzH, fzArgs, fzCells, fz, IA, WI, DI, DA, U32]) (by simp [U32, isD_u32, isD_v, isD_nil, isD_agg, IA, WI, DI, DA]) ?_
      simp -implicitDefEqProofs only [go_sem, simprocAttr, -Int.reducePow, DD, x_app, x_ga0, x_gas, x_gan, Int.cast_ofNat_Int, eq_self, Int.zero_lt_one, Bool.not_false, Bool.not_true, beq_self_eq_true, WI, IA, DI, DA, c1, c2, c3, c4]
      refine callK_of false whole_Up.call (u1) rfl rfl (by simp [ownOK, own1, hd, fzH, fzArgs, fzCells, fz, IA, WI, DI, DA, U32]) (by simp [U32, isD_u32, isD_v, isD_nil, isD_agg, IA, WI, DI, DA]) ?_
      simp -implicitDefEqProofs only [go_sem, simprocAttr, -Int.reducePow, DD, x_app, x_ga0, x_gas, x_gan, Int.cast_ofNat_Int, eq_self, Int.zero_lt_one, Bool.not_false, Bool.not_true, beq_self_eq_true, WI, IA, DI, DA, c1, c2, c3, c4]
      refine callK_of false whole_Up.call (u2) rfl rfl (by simp [ownOK, own1, hd, fzH, fzArgs, fzCells, fz, IA, WI, DI, DA, U32]) (by simp [U32, isD_u32, isD_v, isD_nil, isD_agg, IA, WI, DI, DA]) ?_
      simp -implicitDefEqProofs only [go_sem, simprocAttr, -Int.reducePow, DD, x_app, x_ga0, x_gas, x_gan, Int.cast_ofNat_Int, eq_self, Int.zero_lt_one, Bool.not_false, Bool.not_true, beq_self_eq_true, WI, IA, DI, DA, c1, c2, c3, c4]
      refine callK_of false whole_Add.call (a1) rfl rfl (by simp [ownOK, own1, hd, fzH, fzArgs, fzCells, fz, IA, WI, DI, DA, U32]) (by simp [U32, isD_u32, isD_v, isD_nil, isD_agg, IA, WI, DI, DA]) ?_
      simp -implicitDefEqProofs only [go_sem, simprocAttr, -Int.reducePow, DD, x_app, x_ga0, x_gas, x_gan, Int.cast_ofNat_Int, eq_self, Int.zero_lt_one, Bool.not_false, Bool.not_true, beq_self_eq_true, WI, IA, DI, DA, c1, c2, c3, c4]
      refine callK_of false dyad_Raw.call (r1) rfl rfl (by simp [ownOK, own1, hd, fzH, fzArgs, fzCells, fz, IA, WI, DI, DA, U32]) (by simp [U32, isD_u32, isD_v, isD_nil, isD_agg, IA, WI, DI, DA]) ?_
      simp -implicitDefEqProofs only [go_sem, simprocAttr, -Int.reducePow, DD, x_app, x_ga0, x_gas, x_gan, Int.cast_ofNat_Int, eq_self, Int.zero_lt_one, Bool.not_false, Bool.not_true, beq_self_eq_true, WI, IA, DI, DA, c1, c2, c3, c4]
theorem dadd_r (ha : RD a x B) (hb : RD b y C) (hB : B ≤ 20000) (hC : C ≤ 20000) : Sat CT false 50 [a, b] (DI (x + y)) := dadd_w ha hb (Nat.le_trans hB (by decide)) (Nat.le_trans hC (by decide))
theorem dneg_r (ha : RD a x B) (hB : B ≤ 20000) : Sat CT false 51 [a] (DI (-x)) := by
  refine sat_of dyad_Neg.ok (by simp) ?_
  have DD := dyad_Neg.dr
  simp only [drP, drPx, drPt, drR, drS, drT, bodyOf, Tryd.f51, Nat.reduceEqDiff, reduceIte, true_and, and_true] at DD
  obtain ⟨n, l, e, rfl, hl, rfl, hv, hL, he, hdb⟩ := ha
  have q0 := neg_sat n l hl (by omega)
  have q1 := kept_sat e (by omega)
  have q2 := raw_sat (decide (-iv n l < 0)) (lim (-iv n l).natAbs) e (Lm_lim _) (by rw [Int.natAbs_neg, abs_iv]; have := lim_nv_len hl hL (Nat.le_refl _); omega) (by rw [nv_lim, Int.natAbs_neg, abs_iv]; exact pow2_lt hv (by omega)) (by omega)
  rw [iv_W, ← dv_neg] at q2
  simp -implicitDefEqProofs only [go_sem, simprocAttr, -Int.reducePow, Tryd.f51, DD, beq_self_eq_true, Bool.not_false, Bool.not_true, WI, IA, DI, DA]
  refine callK_of false whole_Neg.call (q0) rfl rfl (by simp [ownOK, own1, hd, fzH, fzArgs, fzCells, fz, IA, WI, DI, DA, U32]) (by simp [U32, isD_u32, isD_v, isD_nil, isD_agg, IA, WI, DI, DA]) ?_
  simp -implicitDefEqProofs only [go_sem, simprocAttr, -Int.reducePow, DD, x_app, x_ga0, x_gas, x_gan, Int.cast_ofNat_Int, eq_self, Int.zero_lt_one, Bool.not_false, Bool.not_true, beq_self_eq_true, WI, IA, DI, DA]
  refine callK_of false dyad_kept.call (q1) rfl rfl (by simp [ownOK, own1, hd, fzH, fzArgs, fzCells, fz, IA, WI, DI, DA, U32]) (by simp [U32, isD_u32, isD_v, isD_nil, isD_agg, IA, WI, DI, DA]) ?_
  simp -implicitDefEqProofs only [go_sem, simprocAttr, -Int.reducePow, DD, x_app, x_ga0, x_gas, x_gan, Int.cast_ofNat_Int, eq_self, Int.zero_lt_one, Bool.not_false, Bool.not_true, beq_self_eq_true, WI, IA, DI, DA]
  refine callK_of false dyad_Raw.call (q2) rfl rfl (by simp [ownOK, own1, hd, fzH, fzArgs, fzCells, fz, IA, WI, DI, DA, U32]) (by simp [U32, isD_u32, isD_v, isD_nil, isD_agg, IA, WI, DI, DA]) ?_
  simp -implicitDefEqProofs only [go_sem, simprocAttr, -Int.reducePow, DD, x_app, x_ga0, x_gas, x_gan, Int.cast_ofNat_Int, eq_self, Int.zero_lt_one, Bool.not_false, Bool.not_true, beq_self_eq_true, WI, IA, DI, DA]
theorem dsub_r (ha : RD a x B) (hb : RD b y C) (hB : B ≤ 20000) (hC : C ≤ 20000) : Sat CT false 48 [a, b] (DI (x - y)) := by
  refine sat_of dyad_Sub.ok (by simp) ?_
  have DD := dyad_Sub.dr
  simp only [drP, drPx, drPt, drR, drS, drT, bodyOf, Tryd.f48, Nat.reduceEqDiff, reduceIte, true_and, and_true] at DD
  have hda := ha
  obtain ⟨n, l, e, rfl, hl, rfl, hv, hL, he, hdb⟩ := ha
  obtain ⟨m, k, f, rfl, hk, rfl, hw, hM, hf, hdc⟩ := hb
  have q0 := neg_sat m k hk (by omega)
  obtain ⟨n', l', hW, hr⟩ := RD.neg hk hw hM hf hdc
  rw [hW] at q0
  have q1 := dadd_r hda hr hB hC
  rw [show dv (iv n l) e + -dv (iv m k) f = dv (iv n l) e - dv (iv m k) f from rfl] at q1
  simp -implicitDefEqProofs only [go_sem, simprocAttr, -Int.reducePow, Tryd.f48, DD, beq_self_eq_true, Bool.not_false, Bool.not_true, WI, IA, DI, DA]
  refine callK_of false whole_Neg.call (q0) rfl rfl (by simp [ownOK, own1, hd, fzH, fzArgs, fzCells, fz, IA, WI, DI, DA, U32]) (by simp [U32, isD_u32, isD_v, isD_nil, isD_agg, IA, WI, DI, DA]) ?_
  simp -implicitDefEqProofs only [go_sem, simprocAttr, -Int.reducePow, DD, x_app, x_ga0, x_gas, x_gan, Int.cast_ofNat_Int, eq_self, Int.zero_lt_one, Bool.not_false, Bool.not_true, beq_self_eq_true, WI, IA, DI, DA]
  refine callK_of false dyad_Add.call (q1) rfl rfl (by simp [ownOK, own1, hd, fzH, fzArgs, fzCells, fz, IA, WI, DI, DA, U32]) (by simp [U32, isD_u32, isD_v, isD_nil, isD_agg, IA, WI, DI, DA]) ?_
  simp -implicitDefEqProofs only [go_sem, simprocAttr, -Int.reducePow, DD, x_app, x_ga0, x_gas, x_gan, Int.cast_ofNat_Int, eq_self, Int.zero_lt_one, Bool.not_false, Bool.not_true, beq_self_eq_true, WI, IA, DI, DA]
theorem dmul_r (ha : RD a x B) (hb : RD b y C) (hB : B ≤ 20000) (hC : C ≤ 20000) : Sat CT false 49 [a, b] (DI (x * y)) := by
  refine sat_of dyad_Mul.ok (by simp) ?_
  have DD := dyad_Mul.dr
  simp only [drP, drPx, drPt, drR, drS, drT, bodyOf, Tryd.f49, Nat.reduceEqDiff, reduceIte, true_and, and_true] at DD
  obtain ⟨n, l, e, rfl, hl, rfl, hv, hL, he, hdb⟩ := ha
  obtain ⟨m, k, f, rfl, hk, rfl, hw, hM, hf, hdc⟩ := hb
  have q1 := kept_sat e (by omega)
  have q2 := kept_sat f (by omega)
  have pz : Lt2 (iv n l * iv m k).natAbs 80000 := by
    rw [Int.natAbs_mul, abs_iv, abs_iv]
    exact pow2_lt (pow_lt_pow hv hw) (by omega)
  have lz := len_pow2 pz
  have q0 := wmul_sat n m l k hl hk (by omega) (by omega)
  have q3 := raw_sat (decide (iv n l * iv m k < 0)) (lim (iv n l * iv m k).natAbs) (e + f) (Lm_lim _) (by omega) (by rw [nv_lim]; exact pow2_lt pz (by omega)) (by omega)
  rw [iv_W, ← dv_mul] at q3
  clear pz
  have c1 : IntKind.i64.wrap (e + f) = e + f := wrap_id (by omega)
  simp -implicitDefEqProofs only [go_sem, simprocAttr, -Int.reducePow, Tryd.f49, DD, beq_self_eq_true, Bool.not_false, Bool.not_true, WI, IA, DI, DA, c1]
  refine callK_of false whole_Mul.call (q0) rfl rfl (by simp [ownOK, own1, hd, fzH, fzArgs, fzCells, fz, IA, WI, DI, DA, U32]) (by simp [U32, isD_u32, isD_v, isD_nil, isD_agg, IA, WI, DI, DA]) ?_
  simp -implicitDefEqProofs only [go_sem, simprocAttr, -Int.reducePow, DD, x_app, x_ga0, x_gas, x_gan, Int.cast_ofNat_Int, eq_self, Int.zero_lt_one, Bool.not_false, Bool.not_true, beq_self_eq_true, WI, IA, DI, DA, c1]
  refine callK_of false dyad_kept.call (q1) rfl rfl (by simp [ownOK, own1, hd, fzH, fzArgs, fzCells, fz, IA, WI, DI, DA, U32]) (by simp [U32, isD_u32, isD_v, isD_nil, isD_agg, IA, WI, DI, DA]) ?_
  simp -implicitDefEqProofs only [go_sem, simprocAttr, -Int.reducePow, DD, x_app, x_ga0, x_gas, x_gan, Int.cast_ofNat_Int, eq_self, Int.zero_lt_one, Bool.not_false, Bool.not_true, beq_self_eq_true, WI, IA, DI, DA, c1]
  refine callK_of false dyad_kept.call (q2) rfl rfl (by simp [ownOK, own1, hd, fzH, fzArgs, fzCells, fz, IA, WI, DI, DA, U32]) (by simp [U32, isD_u32, isD_v, isD_nil, isD_agg, IA, WI, DI, DA]) ?_
  simp -implicitDefEqProofs only [go_sem, simprocAttr, -Int.reducePow, DD, x_app, x_ga0, x_gas, x_gan, Int.cast_ofNat_Int, eq_self, Int.zero_lt_one, Bool.not_false, Bool.not_true, beq_self_eq_true, WI, IA, DI, DA, c1]
  refine callK_of false dyad_Raw.call (q3) rfl rfl (by simp [ownOK, own1, hd, fzH, fzArgs, fzCells, fz, IA, WI, DI, DA, U32]) (by simp [U32, isD_u32, isD_v, isD_nil, isD_agg, IA, WI, DI, DA]) ?_
  simp -implicitDefEqProofs only [go_sem, simprocAttr, -Int.reducePow, DD, x_app, x_ga0, x_gas, x_gan, Int.cast_ofNat_Int, eq_self, Int.zero_lt_one, Bool.not_false, Bool.not_true, beq_self_eq_true, WI, IA, DI, DA, c1]
theorem dofn_sat (v : Int) (h1 : -9223372036854775808 ≤ v) (h2 : v ≤ 9223372036854775807) : Sat CT false 44 [I64 v] (DI (dv v 0)) := by
  refine sat_of dyad_Of.ok (by simp) ?_
  have DD := dyad_Of.dr
  simp only [drP, drPx, drPt, drR, drS, drT, bodyOf, Tryd.f44, Nat.reduceEqDiff, reduceIte, true_and, and_true] at DD
  have pz : Lt2 v.natAbs 64 := by unfold Lt2; omega
  have lz := len_pow2 pz
  have q1 := wof_sat v h1 h2
  have q2 := raw_sat (decide (v < 0)) (lim v.natAbs) 0 (Lm_lim _) (by omega) (by rw [nv_lim]; exact pow2_lt pz (by omega)) (by omega)
  rw [iv_W] at q2
  simp -implicitDefEqProofs only [go_sem, simprocAttr, -Int.reducePow, Tryd.f44, DD, beq_self_eq_true, Bool.not_false, Bool.not_true, WI, IA, DI, DA]
  refine callK_of false whole_Of.call (q1) rfl rfl (by simp [ownOK, own1, hd, fzH, fzArgs, fzCells, fz, IA, WI, DI, DA, U32]) (by simp [U32, isD_u32, isD_v, isD_nil, isD_agg, IA, WI, DI, DA]) ?_
  simp -implicitDefEqProofs only [go_sem, simprocAttr, -Int.reducePow, DD, x_app, x_ga0, x_gas, x_gan, Int.cast_ofNat_Int, eq_self, Int.zero_lt_one, Bool.not_false, Bool.not_true, beq_self_eq_true, WI, IA, DI, DA]
  refine callK_of false dyad_Raw.call (q2) rfl rfl (by simp [ownOK, own1, hd, fzH, fzArgs, fzCells, fz, IA, WI, DI, DA, U32]) (by simp [U32, isD_u32, isD_v, isD_nil, isD_agg, IA, WI, DI, DA]) ?_
  simp -implicitDefEqProofs only [go_sem, simprocAttr, -Int.reducePow, DD, x_app, x_ga0, x_gas, x_gan, Int.cast_ofNat_Int, eq_self, Int.zero_lt_one, Bool.not_false, Bool.not_true, beq_self_eq_true, WI, IA, DI, DA]
end Go.Ab

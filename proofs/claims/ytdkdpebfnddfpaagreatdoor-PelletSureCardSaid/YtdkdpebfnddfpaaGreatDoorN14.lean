/- Contracts of this seat's functions (of each call: what it answers), walked over the abstract machine, and the laws of numbers that they want. Conditions: those that each theorem states. -/
import Derived.Test.YtdkdpebfnddfpaaGreatDoorN13
set_option linter.unusedVariables false
set_option maxRecDepth 20000
set_option linter.unusedSimpArgs false
namespace Go.Ab
open Go.Proofs

theorem div_zero (a b : List Nat) (ha : Lm a) (hb : Lm b) (hla : a.length < 1099511627) (hlb : b.length < 1099511627) (hb0 : nv b = 0) : Sat CT false 91 [U32 a, U32 b] (.tup [.sl 0 [], .sl 0 [], Bo false]) := by
  refine sat_of nat_Div.ok (by simp) ?_
  have DD := nat_Div.dr
  simp only [drP, drPx, drPt, drR, drS, drT, bodyOf, Tryz.f91, Nat.reduceEqDiff, reduceIte, true_and, and_true] at DD
  simp -implicitDefEqProofs only [go_sem, Nat.reduceAdd, Nat.reduceEqDiff, Nat.reduceLT, reduceIte, reduceCtorEq, Int.reduceLE, Int.reduceLT, Int.reduceEq, Int.reduceAdd, Int.reduceMul, Int.reduceSub, Nat.reduceMul, Nat.reduceSub, Nat.reducePow, Nat.reduceLeDiff, Int.reduceToNat, Tryz.f91, DD]
  refine callK_of false nat_cut.call (cut_sat a (by omega)) rfl rfl (by simp [ownOK]) (by simp [U32, isD_u32, IsD.v]) ?_
  simp -implicitDefEqProofs only [go_sem, Nat.reduceAdd, Nat.reduceEqDiff, Nat.reduceLT, reduceIte, reduceCtorEq, Int.reduceLE, Int.reduceLT, Int.reduceEq, Int.reduceAdd, Int.reduceMul, Int.reduceSub, Nat.reduceMul, Nat.reduceSub, Nat.reducePow, Nat.reduceLeDiff, Int.reduceToNat, DD]
  refine callK_of false nat_cut.call (cut_sat b (by omega)) rfl rfl (by simp [ownOK]) (by simp [U32, isD_u32, IsD.v]) ?_
  have f2 : (cutL b).length = 0 := by rw [cutL_lim hb, hb0, lim_zero]; rfl
  have c1 : (((cutL b).length : Nat) : Int) = 0 := by omega
  simp -implicitDefEqProofs only [go_sem, Nat.reduceAdd, Nat.reduceEqDiff, Nat.reduceLT, reduceIte, reduceCtorEq, Int.reduceLE, Int.reduceLT, Int.reduceEq, Int.reduceAdd, Int.reduceMul, Int.reduceSub, Nat.reduceMul, Nat.reduceSub, Nat.reducePow, Nat.reduceLeDiff, Int.reduceToNat, DD, c1]

theorem cmpN_nonneg {x y : Nat} : 0 ≤ cmpN x y ↔ y ≤ x := by
  have := cmpN_neg (x := x) (y := y)
  omega
theorem cmpN_posi {x y : Nat} : 0 < cmpN x y ↔ y < x := by
  unfold cmpN
  constructor
  · intro h
    by_cases q : x < y
    · rw [if_pos q] at h; omega
    · rw [if_neg q] at h
      by_cases p : y < x
      · exact p
      · rw [if_neg p] at h; omega
  · intro h; rw [if_neg (by omega), if_pos h]; decide
theorem lim_len_mono {x y : Nat} (h : x ≤ y) : (lim x).length ≤ (lim y).length := by
  refine Nat.le_of_not_lt fun q => ?_
  have := lim_lt q
  omega
theorem lim_add_len {x y L : Nat} (hx : (lim x).length ≤ L) (hy : (lim y).length ≤ L) : (lim (x + y)).length ≤ L + 1 := by
  have z1 := nv_lt_of (Lm_lim x) hx
  have z2 := nv_lt_of (Lm_lim y) hy
  rw [nv_lim] at z1 z2
  refine lim_length_le ?_
  rw [Nat.pow_succ]
  generalize 4294967296 ^ L = P at *
  omega
theorem lim_mul_len {x y L M : Nat} (hx : (lim x).length ≤ L) (hy : (lim y).length ≤ M) : (lim (x * y)).length ≤ L + M := by
  have z1 := nv_lt_of (Lm_lim x) hx
  have z2 := nv_lt_of (Lm_lim y) hy
  rw [nv_lim] at z1 z2
  refine lim_length_le ?_
  rw [Nat.pow_add]
  exact Nat.mul_lt_mul'' z1 z2
theorem lim_pow2 (k : Nat) : (lim (2 ^ k)).length ≤ k / 32 + 1 := by
  refine lim_length_le ?_
  have e : (4294967296 : Nat) ^ (k / 32 + 1) = 2 ^ (32 * (k / 32 + 1)) := by rw [Nat.pow_mul]
  rw [e]
  exact Nat.pow_lt_pow_right (by omega) (by omega)
theorem bl_nv_le {A : List Nat} (hA : Lm A) : bl (nv A) ≤ 32 * A.length := by
  refine bl_le_of ?_
  rw [Nat.pow_mul]
  exact nv_lt hA
theorem half_sq (a : Nat) : a < 2 ^ ((bl a + 1) / 2) * 2 ^ ((bl a + 1) / 2) := by
  rw [← Nat.pow_add]
  exact Nat.lt_of_lt_of_le (bl_lt a) (Nat.pow_le_pow_right (by omega) (by omega))

theorem root_sat (a : List Nat) (ha : Lm a) (hla : a.length ≤ 6000) : Sat CT false 56 [U32 a] (U32 (lim (isq (nv a)))) := by
  refine sat_of nat_Root.ok (by simp) ?_
  have DD := nat_Root.dr
  simp only [drP, drPx, drPt, drR, drS, drT, bodyOf, Tryz.f56, Nat.reduceEqDiff, reduceIte, true_and, and_true] at DD
  simp -implicitDefEqProofs only [go_sem, Nat.reduceAdd, Nat.reduceEqDiff, Nat.reduceLT, reduceIte, reduceCtorEq, Int.reduceLE, Int.reduceLT, Int.reduceEq, Int.reduceAdd, Int.reduceMul, Int.reduceSub, Nat.reduceMul, Nat.reduceSub, Nat.reducePow, Nat.reduceLeDiff, Int.reduceToNat, Tryz.f56, DD]
  refine callK_of false nat_cut.call (cut_sat a (by omega)) rfl rfl (by simp [ownOK]) (by simp [U32, isD_u32, IsD.v]) ?_
  have e1 := cutL_length a
  have f1 := cutL_lim ha
  have f3 := nv_cutL a
  have ha := Lm_cutL ha
  rw [← f3]
  rw [← f3] at f1
  generalize cutL a = A at *
  have hlA : A.length ≤ 6000 := by omega
  clear e1 hla f3
  by_cases hA : A.length = 0
  · have c1 : (A.length : Int) = 0 := by omega
    have z : lim (isq (nv A)) = [] := by rw [nv_nil_of hA]; exact lim_zero
    simp -implicitDefEqProofs only [go_sem, Nat.reduceAdd, Nat.reduceEqDiff, Nat.reduceLT, reduceIte, reduceCtorEq, Int.reduceLE, Int.reduceLT, Int.reduceEq, Int.reduceAdd, Int.reduceMul, Int.reduceSub, Nat.reduceMul, Nat.reduceSub, Nat.reducePow, Nat.reduceLeDiff, Int.reduceToNat, DD, c1, z]
    rfl
  · have c1 : ¬ (A.length : Int) = 0 := by omega
    have hA0 : nv A ≠ 0 := fun h => hA (by rw [f1, h, lim_zero]; rfl)
    simp -implicitDefEqProofs only [go_sem, Nat.reduceAdd, Nat.reduceEqDiff, Nat.reduceLT, reduceIte, reduceCtorEq, Int.reduceLE, Int.reduceLT, Int.reduceEq, Int.reduceAdd, Int.reduceMul, Int.reduceSub, Nat.reduceMul, Nat.reduceSub, Nat.reducePow, Nat.reduceLeDiff, Int.reduceToNat, DD, c1]
    refine callK_of false nat_Bits.call (bits_sat A ha (by omega)) rfl rfl (by simp [ownOK]) (by simp [U32, isD_u32, isD_v]) ?_
    have hbl := bl_nv_le ha
    have hsq := half_sq (nv A)
    generalize bl (nv A) = n at *
    have w1 := incI (j := n) (by omega)
    have w2 : IntKind.i64.wrap (((n + 1 : Nat) : Int).tdiv 2) = (((n + 1) / 2 : Nat) : Int) := by
      rw [Int.tdiv_eq_ediv_of_nonneg (by omega), wrap_i64 (by omega) (by omega)]; omega
    have hk : (n + 1) / 2 ≤ 96001 := by omega
    generalize (n + 1) / 2 = k at *
    have hsh : shN (k : Int) = k := by unfold shN; omega
    simp -implicitDefEqProofs only [go_sem, Nat.reduceAdd, Nat.reduceEqDiff, Nat.reduceLT, reduceIte, reduceCtorEq, Int.reduceLE, Int.reduceLT, Int.reduceEq, Int.reduceAdd, Int.reduceMul, Int.reduceSub, Nat.reduceMul, Nat.reduceSub, Nat.reducePow, Nat.reduceLeDiff, Int.reduceToNat, DD, w1, w2]
    refine callK_of (H' := [⟨u32s [1], true, false⟩]) false nat_Shl.call (shl_sat [1] (k : Int) (by intro x hx; simp at hx; omega) (by simp)) rfl rfl (by simp [ownOK, hd, u32s]) (by simp [U32, isD_u32, isD_v]) ?_
    rw [hsh, show nv [1] * 2 ^ k = 2 ^ k from Nat.one_mul _]
    have hx0 : isq (nv A) ≤ 2 ^ k := Nat.le_of_lt (isq_lt hsq)
    have hlen0 := lim_pow2 k
    have hpos0 : 0 < 2 ^ k := Nat.two_pow_pos k
    clear hsq
    generalize 2 ^ k = X0 at *
    simp -implicitDefEqProofs only [go_sem, Nat.reduceAdd, Nat.reduceEqDiff, Nat.reduceLT, reduceIte, reduceCtorEq, Int.reduceLE, Int.reduceLT, Int.reduceEq, Int.reduceAdd, Int.reduceMul, Int.reduceSub, Nat.reduceMul, Nat.reduceSub, Nat.reducePow, Nat.reduceLeDiff, Int.reduceToNat, DD, w1, w2]
    refine loop_of aW0_mono (fun m σ => ∃ sl, σ = ⟨sl, [⟨u32s [1], true, false⟩]⟩ ∧ 0 < m ∧ isq (nv A) ≤ m ∧ (lim m).length ≤ 3002 ∧ look sl 0 = .sl A.length (u32s A) ∧ look sl 3 = .sl (lim m).length (u32s (lim m))) ?_ (n := X0)
      ⟨_, rfl, hpos0, hx0, by omega, by simp [x_look], by simp [x_look]⟩
    clear hpos0 hlen0 hx0
    rintro x _ ⟨sl, rfl, hx, hle, hlen, h0, h3⟩
    have hq : nv A / x ≤ nv A := Nat.div_le_self _ _
    have hqlen : (lim (nv A / x)).length ≤ 6000 := Nat.le_trans (lim_len_mono hq) (by rw [← f1]; omega)
    have hdv := div_sat A (lim x) ha (Lm_lim x) (by omega) (by omega) (by rw [nv_lim]; omega)
    rw [nv_lim] at hdv
    have had := nat_add_sat (lim x) (lim (nv A / x)) (Lm_lim _) (Lm_lim _) (by omega) (by omega)
    rw [nv_lim, nv_lim] at had
    have hsumlen : (lim (x + nv A / x)).length ≤ 9003 := lim_add_len (L := 9002) (by omega) (by omega)
    have hsr := shr_sat (lim (x + nv A / x)) 1 (Lm_lim _) (by omega)
    rw [nv_lim, show shN 1 = 1 from rfl, Nat.pow_one] at hsr
    have hylen : (lim ((x + nv A / x) / 2)).length ≤ 9003 := Nat.le_trans (lim_len_mono (Nat.div_le_self _ _)) hsumlen
    have hcm := cmp_sat (lim ((x + nv A / x) / 2)) (lim x) (Lm_lim _) (Lm_lim _) (by omega) (by omega)
    rw [nv_lim, nv_lim] at hcm
    simp -implicitDefEqProofs only [go_sem, Nat.reduceAdd, Nat.reduceEqDiff, Nat.reduceLT, reduceIte, reduceCtorEq, Int.reduceLE, Int.reduceLT, Int.reduceEq, Int.reduceAdd, Int.reduceMul, Int.reduceSub, Nat.reduceMul, Nat.reduceSub, Nat.reducePow, Nat.reduceLeDiff, Int.reduceToNat, DD, h0, h3]
    refine callK_of false nat_Div.call hdv rfl rfl (by simp [ownOK]) (by simp [U32, isD_u32, isD_v]) ?_
    simp -implicitDefEqProofs only [go_sem, Nat.reduceAdd, Nat.reduceEqDiff, Nat.reduceLT, reduceIte, reduceCtorEq, Int.reduceLE, Int.reduceLT, Int.reduceEq, Int.reduceAdd, Int.reduceMul, Int.reduceSub, Nat.reduceMul, Nat.reduceSub, Nat.reducePow, Nat.reduceLeDiff, Int.reduceToNat, DD, h0, h3]
    refine callK_of false nat_Add.call had rfl rfl (by simp [ownOK]) (by simp [U32, isD_u32, isD_v]) ?_
    simp -implicitDefEqProofs only [go_sem, Nat.reduceAdd, Nat.reduceEqDiff, Nat.reduceLT, reduceIte, reduceCtorEq, Int.reduceLE, Int.reduceLT, Int.reduceEq, Int.reduceAdd, Int.reduceMul, Int.reduceSub, Nat.reduceMul, Nat.reduceSub, Nat.reducePow, Nat.reduceLeDiff, Int.reduceToNat, DD, h0, h3]
    refine callK_of false nat_Shr.call hsr rfl rfl (by simp [ownOK]) (by simp [U32, isD_u32, isD_v]) ?_
    simp -implicitDefEqProofs only [go_sem, Nat.reduceAdd, Nat.reduceEqDiff, Nat.reduceLT, reduceIte, reduceCtorEq, Int.reduceLE, Int.reduceLT, Int.reduceEq, Int.reduceAdd, Int.reduceMul, Int.reduceSub, Nat.reduceMul, Nat.reduceSub, Nat.reducePow, Nat.reduceLeDiff, Int.reduceToNat, DD, h0, h3]
    refine callK_of false nat_Cmp.call hcm rfl rfl (by simp [ownOK]) (by simp [U32, isD_u32, isD_v]) ?_
    by_cases hy : x ≤ (x + nv A / x) / 2
    · have c2 := cmpN_nonneg.mpr hy
      have e := newton_stop hx hle hy
      rw [← e]
      simp -implicitDefEqProofs only [go_sem, Nat.reduceAdd, Nat.reduceEqDiff, Nat.reduceLT, reduceIte, reduceCtorEq, Int.reduceLE, Int.reduceLT, Int.reduceEq, Int.reduceAdd, Int.reduceMul, Int.reduceSub, Nat.reduceMul, Nat.reduceSub, Nat.reducePow, Nat.reduceLeDiff, Int.reduceToNat, DD, h0, h3, c2]
    · have c2 : ¬ (0 ≤ cmpN ((x + nv A / x) / 2) x) := fun h => hy (cmpN_nonneg.mp h)
      have hge := newton_ge (a := nv A) hx
      have := isq_pos hA0
      simp -implicitDefEqProofs only [go_sem, Nat.reduceAdd, Nat.reduceEqDiff, Nat.reduceLT, reduceIte, reduceCtorEq, Int.reduceLE, Int.reduceLT, Int.reduceEq, Int.reduceAdd, Int.reduceMul, Int.reduceSub, Nat.reduceMul, Nat.reduceSub, Nat.reducePow, Nat.reduceLeDiff, Int.reduceToNat, DD, h0, h3, c2]
      exact ⟨(x + nv A / x) / 2, by omega, _, rfl, by omega, hge, Nat.le_trans (lim_len_mono (by omega)) hlen, by simp [x_look, h0], by simp [x_look]⟩
end Go.Ab

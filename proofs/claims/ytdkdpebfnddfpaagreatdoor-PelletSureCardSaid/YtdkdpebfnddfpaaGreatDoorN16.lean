/- Contracts of this seat's functions (of each call: what it answers), walked over the abstract machine, and the laws of numbers that they want. Conditions: those that each theorem states. -/
import Derived.Test.YtdkdpebfnddfpaaGreatDoorN15
set_option linter.unusedVariables false
set_option maxRecDepth 20000
set_option linter.unusedSimpArgs false
namespace Go.Ab
open Go.Proofs

theorem rdiv_zero (a b : List Nat) (ha : Lm a) (hb : Lm b) (hla : a.length < 1099511627) (hlb : b.length < 1099511627) (hb0 : nv b = 0) : Sat CT false 123 [U32 a, U32 b] (.tup [.sl 0 [], .sl 0 [], Bo false]) := by
  refine sat_of annulusref1_Div.ok (by simp) ?_
  have DD := annulusref1_Div.dr
  simp only [drP, drPx, drPt, drR, drS, drT, bodyOf, Tryz.f123, Nat.reduceEqDiff, reduceIte, true_and, and_true] at DD
  simp -implicitDefEqProofs only [go_sem, Nat.reduceAdd, Nat.reduceEqDiff, Nat.reduceLT, reduceIte, reduceCtorEq, Int.reduceLE, Int.reduceLT, Int.reduceEq, Int.reduceAdd, Int.reduceMul, Int.reduceSub, Nat.reduceMul, Nat.reduceSub, Nat.reducePow, Nat.reduceLeDiff, Int.reduceToNat, Tryz.f123, DD]
  refine callK_of false annulusref1_Trim.call (rtrim_sat a (by omega)) rfl rfl (by simp [ownOK]) (by simp [U32, isD_u32, IsD.v]) ?_
  simp -implicitDefEqProofs only [go_sem, Nat.reduceAdd, Nat.reduceEqDiff, Nat.reduceLT, reduceIte, reduceCtorEq, Int.reduceLE, Int.reduceLT, Int.reduceEq, Int.reduceAdd, Int.reduceMul, Int.reduceSub, Nat.reduceMul, Nat.reduceSub, Nat.reducePow, Nat.reduceLeDiff, Int.reduceToNat, DD]
  refine callK_of false annulusref1_Trim.call (rtrim_sat b (by omega)) rfl rfl (by simp [ownOK]) (by simp [U32, isD_u32, IsD.v]) ?_
  have f2 : (cutL b).length = 0 := by rw [cutL_lim hb, hb0, lim_zero]; rfl
  have c1 : (((cutL b).length : Nat) : Int) = 0 := by omega
  simp -implicitDefEqProofs only [go_sem, Nat.reduceAdd, Nat.reduceEqDiff, Nat.reduceLT, reduceIte, reduceCtorEq, Int.reduceLE, Int.reduceLT, Int.reduceEq, Int.reduceAdd, Int.reduceMul, Int.reduceSub, Nat.reduceMul, Nat.reduceSub, Nat.reducePow, Nat.reduceLeDiff, Int.reduceToNat, DD, c1]

theorem rroot_sat (a : List Nat) (ha : Lm a) (hla : a.length ≤ 6000) : Sat CT false 63 [U32 a] (U32 (lim (isq (nv a)))) := by
  refine sat_of annulusref1_Root.ok (by simp) ?_
  have DD := annulusref1_Root.dr
  simp only [drP, drPx, drPt, drR, drS, drT, bodyOf, Tryz.f63, Nat.reduceEqDiff, reduceIte, true_and, and_true] at DD
  simp -implicitDefEqProofs only [go_sem, Nat.reduceAdd, Nat.reduceEqDiff, Nat.reduceLT, reduceIte, reduceCtorEq, Int.reduceLE, Int.reduceLT, Int.reduceEq, Int.reduceAdd, Int.reduceMul, Int.reduceSub, Nat.reduceMul, Nat.reduceSub, Nat.reducePow, Nat.reduceLeDiff, Int.reduceToNat, Tryz.f63, DD]
  refine callK_of false annulusref1_Bits.call (rbits_sat a ha (by omega)) rfl rfl (by simp [ownOK]) (by simp [U32, isD_u32, IsD.v]) ?_
  have hbl := bl_nv_le ha
  have hsq := half_sq (nv a)
  generalize bl (nv a) = n0 at *
  have w1 := incI (j := n0) (by omega)
  have w2 : IntKind.i64.wrap (((n0 + 1 : Nat) : Int).tdiv 2) = (((n0 + 1) / 2 : Nat) : Int) := by
    rw [Int.tdiv_eq_ediv_of_nonneg (by omega), wrap_i64 (by omega) (by omega)]; omega
  have hn : (n0 + 1) / 2 ≤ 96000 := by omega
  generalize (n0 + 1) / 2 = n at *
  have w3 : IntKind.i64.wrap ((n : Int).tdiv 32) = ((n / 32 : Nat) : Int) := by
    rw [Int.tdiv_eq_ediv_of_nonneg (by omega), wrap_i64 (by omega) (by omega)]; omega
  have w4 := incI (j := n / 32) (by omega)
  have c2 : (0 : Int) ≤ ((n / 32 + 1 : Nat) : Int) := by omega
  generalize hL : n / 32 + 1 = L at *
  simp -implicitDefEqProofs only [go_sem, Nat.reduceAdd, Nat.reduceEqDiff, Nat.reduceLT, reduceIte, reduceCtorEq, Int.reduceLE, Int.reduceLT, Int.reduceEq, Int.reduceAdd, Int.reduceMul, Int.reduceSub, Nat.reduceMul, Nat.reduceSub, Nat.reducePow, Nat.reduceLeDiff, Int.reduceToNat, DD, w1, w2, w3, w4, c2]
  refine ⟨⟨by omega, by omega⟩, ?_⟩
  refine loop_of aW0_mono (fun m σ => ∃ sl r, σ = ⟨sl, [⟨u32s r, true, true⟩]⟩ ∧ m ≤ n + 1 ∧ r.length = L ∧ Lm r ∧
    look sl 0 = .sl a.length (u32s a) ∧ look sl 4 = .own 1 0 0 L ∧ look sl 5 = I64 ((m : Int) - 1) ∧
    2 ^ m ∣ nv r ∧ nv r * nv r ≤ nv a ∧ nv a < (nv r + 2 ^ m) * (nv r + 2 ^ m)) ?_ (n := n + 1)
    ⟨_, List.replicate L 0, rfl, Nat.le_refl _, by simp, Lm_rep _, by simp [x_look], by simp [x_look], by simp [x_look], by rw [nv_rep]; exact Nat.dvd_zero _, by rw [nv_rep]; exact Nat.zero_le _, by
      rw [nv_rep, Nat.zero_add, Nat.pow_succ]
      have h2 : 2 ^ n ≤ 2 ^ n * 2 := by omega
      exact Nat.lt_of_lt_of_le hsq (Nat.mul_le_mul h2 h2)⟩
  clear hsq
  rintro m _ ⟨sl, r, rfl, hm, hrl, hr, h0, h4, h5, hdv, hle, hlt⟩
  cases m with
  | zero =>
    have d1 : ¬ ((0 : Int) ≤ ((0 : Nat) : Int) - 1) := by omega
    have e4 : cutL r = lim (isq (nv a)) := by rw [cutL_lim hr, isq_eq hle hlt]
    simp -implicitDefEqProofs only [go_sem, Nat.reduceAdd, Nat.reduceEqDiff, Nat.reduceLT, reduceIte, reduceCtorEq, Int.reduceLE, Int.reduceLT, Int.reduceEq, Int.reduceAdd, Int.reduceMul, Int.reduceSub, Nat.reduceMul, Nat.reduceSub, Nat.reducePow, Nat.reduceLeDiff, Int.reduceToNat, DD, h0, h4, h5, d1]
    refine callK_u32 annulusref1_Trim.call (rtrim_sat r (by omega)) hrl ?_
    simp -implicitDefEqProofs only [go_sem, Nat.reduceAdd, Nat.reduceEqDiff, Nat.reduceLT, reduceIte, reduceCtorEq, Int.reduceLE, Int.reduceLT, Int.reduceEq, Int.reduceAdd, Int.reduceMul, Int.reduceSub, Nat.reduceMul, Nat.reduceSub, Nat.reducePow, Nat.reduceLeDiff, Int.reduceToNat, DD, h0, h4, h5, d1, e4]
  | succ i =>
    have d0 : ((i + 1 : Nat) : Int) - 1 = (i : Int) := by omega
    rw [d0] at h5
    have d1 : (0 : Int) ≤ (i : Int) := by omega
    have hQb : (nv r).testBit i = false := testBit_dvd hdv (by omega)
    obtain ⟨st1, st2⟩ := root_step hdv hle hlt
    obtain ⟨k, s, hs, rfl⟩ : ∃ k s, s < 32 ∧ i = 32 * k + s := ⟨i / 32, i % 32, by omega, by omega⟩
    have hkA : k < L := by omega
    obtain ⟨hq1, hq2, hq3⟩ := set_bit (k := k) hr hs (by omega) hQb
    generalize hii : 32 * k + s = i at *
    have k1 : IntKind.i64.wrap ((i : Int).tdiv 32) = (k : Int) := by
      rw [Int.tdiv_eq_ediv_of_nonneg (by omega), wrap_i64 (by omega) (by omega)]; omega
    have k2 : (i : Int).tmod 32 = (s : Int) := by rw [Int.tmod_eq_emod_of_nonneg (by omega)]; omega
    have k3 : IntKind.u64.wrap (s : Int) = (s : Int) := wrap64n (by omega)
    have k4 : min s 32 = s := by omega
    have k5 : (0 : Int) ≤ (s : Int) := by omega
    have hp32 : 2 ^ s < 2 ^ 32 := Nat.pow_lt_pow_right (by omega) hs
    replace hp32 : 2 ^ s < 4294967296 := hp32
    have k6 : IntKind.u32.wrap ((1 : Int) * 2 ^ s) = ((2 ^ s : Nat) : Int) := by
      rw [show (1 : Int) * 2 ^ s = ((2 ^ s : Nat) : Int) by simp]; rw [wrap_u32]; generalize 2 ^ s = ps at *; omega
    have k7 : (0 : Int) ≤ (k : Int) := by omega
    have k8 : (k : Int) < (L : Int) := by omega
    have k8' : ¬ ((L : Int) ≤ (k : Int)) := by omega
    have k9 := getD_u32s (l := r) (i := k) (by omega)
    have k10 : k < r.length := by omega
    have k11 : k + 1 ≤ r.length := by omega
    have k12 := or32 (Lm_getD hr k) hp32
    rw [or_bit hq1] at k12
    have k13 := spl_u32s (l := r) (i := k) (x := ((r.getD k 0 + 2 ^ s : Nat) : Int)) (by omega) (Int.natCast_nonneg _)
    rw [Int.toNat_natCast] at k13
    have k14 : leafA (.v (.int .u32 ((r.getD k 0 + 2 ^ s : Nat) : Int))) = true := rfl
    have k15 : IntKind.i64.wrap ((i : Int) - 1) = (i : Int) - 1 := wrap_i64 (by omega) (by omega)
    have k16 := andnot32 (Lm_getD hr k) hs hq1
    have k17 : leafA (.v (.int .u32 ((r.getD k 0 : Nat) : Int))) = true := rfl
    have hr1 := Lm_set hr (i := k) hq2
    have hrr1 : (r.set k (r.getD k 0 + 2 ^ s)).length = L := by simp [hrl]
    generalize hrr : r.set k (r.getD k 0 + 2 ^ s) = r1 at *
    have hg : r1.getD k 0 = r.getD k 0 + 2 ^ s := by rw [← hrr]; simp [List.getD_eq_getElem?_getD, k10]
    have k18 := getD_u32s (l := r1) (i := k) (by omega)
    rw [hg] at k18
    have k19 : k < r1.length := by omega
    have k20 : k + 1 ≤ r1.length := by omega
    have k21 := spl_u32s (l := r1) (i := k) (x := ((r.getD k 0 : Nat) : Int)) (by omega) (Int.natCast_nonneg _)
    rw [Int.toNat_natCast, ← hrr, List.set_set, show r.set k (r.getD k 0) = r by
      apply List.ext_getElem
      · simp
      · intro j h1 h2
        rw [List.getElem_set]
        split
        · rename_i q; subst q; simp [List.getD_eq_getElem?_getD, k10]
        · rfl, hrr] at k21
    have hmul := rmul_satT r1 r1 hr1 hr1 (by omega) (by omega)
    have hcm := rcmp_sat (lim (nv r1 * nv r1)) a (Lm_lim _) ha (Nat.lt_of_le_of_lt (lim_mul_len (L := L) (M := L) (lim_length_le (nv_lt_of hr1 (by omega))) (lim_length_le (nv_lt_of hr1 (by omega)))) (by omega)) (by omega)
    rw [nv_lim] at hcm
    simp -implicitDefEqProofs only [go_sem, Nat.reduceAdd, Nat.reduceEqDiff, Nat.reduceLT, reduceIte, reduceCtorEq, Int.reduceLE, Int.reduceLT, Int.reduceEq, Int.reduceAdd, Int.reduceMul, Int.reduceSub, Nat.reduceMul, Nat.reduceSub, Nat.reducePow, Nat.reduceLeDiff, Int.reduceToNat, DD, h0, h4, h5, d1, k1, k2, k3, k4, k5, k6, k7, k8, k8', k9, k10, k11, k12, k13, k14, k15, List.all_cons, List.all_nil, Bool.and_true, Bool.and_self]
    refine callK_of (H' := [⟨u32s r1, true, true⟩]) true annulusref1_Mul.call hmul rfl (by simp only [List.map_cons, List.map_nil, snap_own, hd, List.getD_cons_zero, List.drop_zero, Nat.mul_one, take_u32s, ← hrr1, List.take_length, snap0_u32s, U32]) (by simp [ownOK, hd, hrr1]) (by simp [U32, isD_u32]) ?_
    simp -implicitDefEqProofs only [go_sem, Nat.reduceAdd, Nat.reduceEqDiff, Nat.reduceLT, reduceIte, reduceCtorEq, Int.reduceLE, Int.reduceLT, Int.reduceEq, Int.reduceAdd, Int.reduceMul, Int.reduceSub, Nat.reduceMul, Nat.reduceSub, Nat.reducePow, Nat.reduceLeDiff, Int.reduceToNat, DD, h0, h4, h5, d1, k1]
    refine callK_of false annulusref1_Cmp.call hcm rfl rfl (by simp [ownOK]) (by simp [U32, isD_u32, isD_v]) ?_
    rw [hq3]
    by_cases hgt : nv a < (nv r + 2 ^ i) * (nv r + 2 ^ i)
    · have c5 := cmpN_posi.mpr hgt
      simp -implicitDefEqProofs only [go_sem, Nat.reduceAdd, Nat.reduceEqDiff, Nat.reduceLT, reduceIte, reduceCtorEq, Int.reduceLE, Int.reduceLT, Int.reduceEq, Int.reduceAdd, Int.reduceMul, Int.reduceSub, Nat.reduceMul, Nat.reduceSub, Nat.reducePow, Nat.reduceLeDiff, Int.reduceToNat, DD, h0, h4, h5, d1, c5, k1, k2, k3, k4, k5, k6, k7, k8, k15, k16, k17, k18, k19, k20, k21, List.all_cons, List.all_nil, Bool.and_true, Bool.and_self]
      exact ⟨i, by omega, _, r, rfl, by omega, hrl, hr, by simp [x_look, h0], by simp [x_look, h4], by simp [x_look], st1 hgt, hle, hgt⟩
    · have c5 : ¬ (0 < cmpN ((nv r + 2 ^ i) * (nv r + 2 ^ i)) (nv a)) := fun h => hgt (cmpN_posi.mp h)
      obtain ⟨s1, s2, s3⟩ := st2 hgt
      simp -implicitDefEqProofs only [go_sem, Nat.reduceAdd, Nat.reduceEqDiff, Nat.reduceLT, reduceIte, reduceCtorEq, Int.reduceLE, Int.reduceLT, Int.reduceEq, Int.reduceAdd, Int.reduceMul, Int.reduceSub, Nat.reduceMul, Nat.reduceSub, Nat.reducePow, Nat.reduceLeDiff, Int.reduceToNat, DD, h0, h4, h5, d1, c5, k1, k15]
      refine ⟨i, by omega, _, r1, rfl, by omega, hrr1, hr1, by simp [x_look, h0], by simp [x_look, h4], by simp [x_look], ?_⟩
      rw [hq3]
      exact ⟨s1, s2, s3⟩
end Go.Ab

/- Contracts of this seat's functions (of each call: what it answers), walked over the abstract machine, and the laws of numbers that they want. Conditions: those that each theorem states. -/
import Derived.Test.YthkpbnbbhlpkjaaGreatDoorW2
set_option linter.unusedVariables false
set_option maxRecDepth 20000
set_option linter.unusedSimpArgs false
namespace Go.Ab
open Go.Proofs

/-- the floor of a quotient, and the rest -/
def fq (z d : Int) : Int := if 0 < d then z / d else (-z) / (-d)
def fr (z d : Int) : Int := z - d * fq z d
theorem fl_unique {z d q r : Int} (h : z = d * q + r) (hr : (0 ≤ r ∧ r < d) ∨ (d < r ∧ r ≤ 0)) : q = fq z d ∧ r = fr z d := by
  have hq : q = fq z d := by
    unfold fq
    rcases hr with ⟨h1, h2⟩ | ⟨h1, h2⟩
    · rw [if_pos (by omega)]
      exact ((Int.ediv_emod_unique (by omega)).mpr ⟨by omega, h1, h2⟩).1.symm
    · rw [if_neg (by omega)]
      refine ((Int.ediv_emod_unique (a := -z) (b := -d) (r := -r) (by omega)).mpr ⟨?_, by omega, by omega⟩).1.symm
      rw [Int.neg_mul]; omega
  refine ⟨hq, ?_⟩
  unfold fr
  rw [← hq]; omega
theorem sgn_mul {x y : Int} : x.sign * y.sign = (x * y).sign := (Int.sign_mul x y).symm
/-- the quotient that is cut off, put right -/
theorem fl_fix {z d t ρ : Int} (h : z = d * t + ρ) (hd : d ≠ 0) (hr : ρ.natAbs < d.natAbs) :
    (ρ.sign * d.sign < 0 → t - 1 = fq z d ∧ ρ + d = fr z d) ∧ (¬ ρ.sign * d.sign < 0 → t = fq z d ∧ ρ = fr z d) := by
  have hs : ρ.sign * d.sign < 0 ↔ (ρ < 0 ∧ 0 < d) ∨ (0 < ρ ∧ d < 0) := by
    have s : ∀ x : Int, (x < 0 ∧ x.sign = -1) ∨ (x = 0 ∧ x.sign = 0) ∨ (0 < x ∧ x.sign = 1) := fun x => by
      rcases Int.lt_trichotomy x 0 with a | a | a
      · exact .inl ⟨a, Int.sign_eq_neg_one_of_neg a⟩
      · exact .inr (.inl ⟨a, by rw [a]; rfl⟩)
      · exact .inr (.inr ⟨a, Int.sign_eq_one_of_pos a⟩)
    rcases s ρ with ⟨a, e⟩ | ⟨a, e⟩ | ⟨a, e⟩ <;> rcases s d with ⟨b, f⟩ | ⟨b, f⟩ | ⟨b, f⟩ <;> rw [e, f] <;> omega
  constructor
  · intro q
    rw [hs] at q
    refine fl_unique (by rw [Int.mul_sub]; omega) ?_
    omega
  · intro q
    rw [hs] at q
    exact fl_unique h (by omega)
theorem tr_eq (n m : Bool) {l k : List Nat} : iv n l = iv m k * (if n = m then ((nv l / nv k : Nat) : Int) else -((nv l / nv k : Nat) : Int)) + (if n then -((nv l % nv k : Nat) : Int) else ((nv l % nv k : Nat) : Int)) := by
  have e := Nat.div_add_mod (nv l) (nv k)
  unfold iv
  generalize nv l / nv k = Q at *
  generalize nv l % nv k = R at *
  generalize nv k = y at *
  rw [← e]
  have e2 : ((y * Q : Nat) : Int) = (y : Int) * (Q : Int) := by simp
  cases n <;> cases m <;> simp [Int.mul_neg, Int.neg_mul] <;> omega
theorem Lz_fr {z d : Int} {M : Nat} (hd : d ≠ 0) (h : Lz d ≤ M) : Lz (fr z d) ≤ M := by
  refine Nat.le_trans (Lz_of ?_) h
  have hr : (0 ≤ fr z d ∧ fr z d < d) ∨ (d < fr z d ∧ fr z d ≤ 0) := by
    unfold fr fq
    by_cases h : 0 < d
    · left
      rw [if_pos h]
      have := Int.emod_nonneg z (show d ≠ 0 by omega)
      have := Int.emod_lt_of_pos z h
      have := Int.emod_def z d
      omega
    · right
      rw [if_neg h]
      have := Int.emod_nonneg (-z) (show -d ≠ 0 by omega)
      have := Int.emod_lt_of_pos (-z) (show 0 < -d by omega)
      have e := Int.emod_def (-z) (-d)
      rw [Int.neg_mul] at e
      omega
  omega
theorem Lz_fq {z d : Int} {L : Nat} (hd : d ≠ 0) (h : Lz z ≤ L) : Lz (fq z d) ≤ L + 1 := by
  have h1 : (fq z d).natAbs ≤ z.natAbs + 1 := by
    unfold fq
    by_cases h : 0 < d
    · rw [if_pos h]
      have := Int.natAbs_ediv_le_natAbs z d
      omega
    · rw [if_neg h]
      have := Int.natAbs_ediv_le_natAbs (-z) (-d)
      rw [Int.natAbs_neg] at this
      omega
  refine Nat.le_trans (Lz_of (n := z.natAbs + 1) h1) ?_
  by_cases hL : L = 0
  · have : z.natAbs = 0 := by
      have := nv_nil_of (l := lim z.natAbs) (by unfold Lz at h; omega)
      rwa [nv_lim] at this
    rw [this, hL]
    exact lim_length_le (k := 0 + 1) (by decide)
  · exact lim_add_len h (Nat.le_trans (lim_length_le (k := 1) (by decide)) (by omega))
theorem fq_pow (z : Int) (k : Nat) : fq z (2 ^ k) = z / 2 ^ k := by
  unfold fq
  rw [if_pos (Int.pow_pos (by decide))]

/-! contracts over what reads as a number -/
section
variable {a b : AV} {x y : Int} {L M : Nat}
theorem add_r (ha : RI a x L) (hb : RI b y M) (hL : L < 1099511627) (hM : M < 1099511627) : Sat CT false 126 [a, b] (WI (x + y)) := by
  obtain ⟨n, l, rfl, hl, rfl, h1⟩ := ha; obtain ⟨m, k, rfl, hk, rfl, h2⟩ := hb; exact wadd_sat n m l k hl hk (by omega) (by omega)
theorem sub_r (ha : RI a x L) (hb : RI b y M) (hL : L < 1099511627) (hM : M < 1099511627) : Sat CT false 173 [a, b] (WI (x - y)) := by
  obtain ⟨n, l, rfl, hl, rfl, h1⟩ := ha; obtain ⟨m, k, rfl, hk, rfl, h2⟩ := hb; exact wsub_sat n m l k hl hk (by omega) (by omega)
theorem mul_r (ha : RI a x L) (hb : RI b y M) (hL : L < 1099511627) (hM : M < 1099511627) : Sat CT false 134 [a, b] (WI (x * y)) := by
  obtain ⟨n, l, rfl, hl, rfl, h1⟩ := ha; obtain ⟨m, k, rfl, hk, rfl, h2⟩ := hb; exact wmul_sat n m l k hl hk (by omega) (by omega)
theorem cmp_r (ha : RI a x L) (hb : RI b y M) (hL : L < 1099511627) (hM : M < 1099511627) : Sat CT false 179 [a, b] (I64 (x - y).sign) := by
  obtain ⟨n, l, rfl, hl, rfl, h1⟩ := ha; obtain ⟨m, k, rfl, hk, rfl, h2⟩ := hb; exact wcmp_sat n m l k hl hk (by omega) (by omega)
theorem norm_r (ha : RI a x L) (hL : L < 1099511627) : Sat CT false 165 [a] (WI x) := by
  obtain ⟨n, l, rfl, hl, rfl, h1⟩ := ha; exact norm_sat n l hl (by omega)
theorem neg_r (ha : RI a x L) (hL : L < 1099511627) : Sat CT false 121 [a] (WI (-x)) := by
  obtain ⟨n, l, rfl, hl, rfl, h1⟩ := ha; exact neg_sat n l hl (by omega)
theorem sign_r (ha : RI a x L) (hL : L < 1099511627) : Sat CT false 122 [a] (I64 x.sign) := by
  obtain ⟨n, l, rfl, hl, rfl, h1⟩ := ha; exact wsign_sat n l hl (by omega)
theorem radd_r (ha : RI a x L) (hb : RI b y M) (hL : L < 1099511627) (hM : M < 1099511627) : Sat CT false 119 [a, b] (WI (x + y)) := by
  obtain ⟨n, l, rfl, hl, rfl, h1⟩ := ha; obtain ⟨m, k, rfl, hk, rfl, h2⟩ := hb; exact raddint_sat n m l k hl hk (by omega) (by omega)
end
theorem wof_sat (v : Int) (h1 : -9223372036854775808 ≤ v) (h2 : v ≤ 9223372036854775807) : Sat CT false 155 [I64 v] (WI v) := by
  refine sat_of whole_Of.ok (by simp) ?_
  have DD := whole_Of.dr
  simp only [drP, drPx, drPt, drR, drS, drT, bodyOf, Tryz.f155, Nat.reduceEqDiff, reduceIte, true_and, and_true] at DD
  obtain ⟨N, hN⟩ : ∃ N : Nat, N = v.natAbs := ⟨_, rfl⟩
  have hlm : Lm [N % 4294967296, N / 4294967296] := by intro x hx; simp at hx; omega
  have hnv : nv [N % 4294967296, N / 4294967296] = N := by simp only [nv]; omega
  have w4 := wrap32n N
  have w5 := fdiv32 N
  have w6 : IntKind.u32.wrap ((N / 4294967296 : Nat) : Int) = ((N / 4294967296 : Nat) : Int) := by rw [wrap_u32]; omega
  by_cases hv : v < 0
  · have e : iv true [N % 4294967296, N / 4294967296] = v := by unfold iv; rw [hnv, if_pos rfl]; omega
    have q := with_sat true [N % 4294967296, N / 4294967296] hlm (by simp)
    rw [e] at q
    have w1 : IntKind.u64.wrap v = v + 18446744073709551616 := by rw [wrap_u64']; omega
    have w2 : IntKind.u64.wrap (0 - (v + 18446744073709551616)) = (N : Int) := by rw [wrap_u64']; omega
    simp -implicitDefEqProofs only [go_sem, Nat.reduceAdd, Nat.reduceEqDiff, Nat.reduceLT, reduceIte, reduceCtorEq, Int.reduceLE, Int.reduceLT, Int.reduceEq, Int.reduceAdd, Int.reduceMul, Int.reduceSub, Nat.reduceMul, Nat.reduceSub, Nat.reducePow, Nat.reduceLeDiff, Int.reduceToNat, Tryz.f155, DD, beq_self_eq_true, Bool.not_false, Bool.not_true, WI, IA, hv, w1, w2, w4, w5, w6]
    refine callK_of false whole_with.call (q) rfl rfl (by simp [ownOK, own1, hd, fzH, fzArgs, fzCells, fz, IA, WI, U32]) (by simp [U32, isD_u32, isD_v, isD_nil, isD_agg, IA, WI]) ?_
    simp -implicitDefEqProofs only [go_sem, Nat.reduceAdd, Nat.reduceEqDiff, Nat.reduceLT, reduceIte, reduceCtorEq, Int.reduceLE, Int.reduceLT, Int.reduceEq, Int.reduceAdd, Int.reduceMul, Int.reduceSub, Nat.reduceMul, Nat.reduceSub, Nat.reducePow, Nat.reduceLeDiff, Int.reduceToNat, DD, x_app, x_ga0, x_gas, x_gan, Int.cast_ofNat_Int, eq_self, Int.zero_lt_one, Bool.not_false, Bool.not_true, beq_self_eq_true, WI, IA, hv, w1, w2, w4, w5, w6]
  · have e : iv false [N % 4294967296, N / 4294967296] = v := by unfold iv; rw [hnv, if_neg (by simp)]; omega
    have q := with_sat false [N % 4294967296, N / 4294967296] hlm (by simp)
    rw [e] at q
    have w1 : IntKind.u64.wrap v = (N : Int) := by rw [wrap_u64']; omega
    simp -implicitDefEqProofs only [go_sem, Nat.reduceAdd, Nat.reduceEqDiff, Nat.reduceLT, reduceIte, reduceCtorEq, Int.reduceLE, Int.reduceLT, Int.reduceEq, Int.reduceAdd, Int.reduceMul, Int.reduceSub, Nat.reduceMul, Nat.reduceSub, Nat.reducePow, Nat.reduceLeDiff, Int.reduceToNat, Tryz.f155, DD, beq_self_eq_true, Bool.not_false, Bool.not_true, WI, IA, hv, w1, w4, w5, w6]
    refine callK_of false whole_with.call (q) rfl rfl (by simp [ownOK, own1, hd, fzH, fzArgs, fzCells, fz, IA, WI, U32]) (by simp [U32, isD_u32, isD_v, isD_nil, isD_agg, IA, WI]) ?_
    simp -implicitDefEqProofs only [go_sem, Nat.reduceAdd, Nat.reduceEqDiff, Nat.reduceLT, reduceIte, reduceCtorEq, Int.reduceLE, Int.reduceLT, Int.reduceEq, Int.reduceAdd, Int.reduceMul, Int.reduceSub, Nat.reduceMul, Nat.reduceSub, Nat.reducePow, Nat.reduceLeDiff, Int.reduceToNat, DD, x_app, x_ga0, x_gas, x_gan, Int.cast_ofNat_Int, eq_self, Int.zero_lt_one, Bool.not_false, Bool.not_true, beq_self_eq_true, WI, IA, hv, w1, w4, w5, w6]
theorem rof_sat (v : Int) (h1 : -9223372036854775808 ≤ v) (h2 : v ≤ 9223372036854775807) : Sat CT false 66 [I64 v] (WI v) := by
  refine sat_of annulusref1_Of.ok (by simp) ?_
  have DD := annulusref1_Of.dr
  simp only [drP, drPx, drPt, drR, drS, drT, bodyOf, Tryz.f66, Nat.reduceEqDiff, reduceIte, true_and, and_true] at DD
  obtain ⟨N, hN⟩ : ∃ N : Nat, N = v.natAbs := ⟨_, rfl⟩
  have hlm : Lm [N % 4294967296, N / 4294967296] := by intro x hx; simp at hx; omega
  have hnv : nv [N % 4294967296, N / 4294967296] = N := by simp only [nv]; omega
  have w4 := wrap32n N
  have w5 := fdiv32 N
  have w6 : IntKind.u32.wrap ((N / 4294967296 : Nat) : Int) = ((N / 4294967296 : Nat) : Int) := by rw [wrap_u32]; omega
  by_cases hv : v < 0
  · have e : iv true [N % 4294967296, N / 4294967296] = v := by unfold iv; rw [hnv, if_pos rfl]; omega
    have q := rnorm_sat true [N % 4294967296, N / 4294967296] hlm (by simp)
    rw [e] at q
    have w1 : IntKind.u64.wrap v = v + 18446744073709551616 := by rw [wrap_u64']; omega
    have w2 : IntKind.u64.wrap (0 - (v + 18446744073709551616)) = (N : Int) := by rw [wrap_u64']; omega
    simp -implicitDefEqProofs only [go_sem, Nat.reduceAdd, Nat.reduceEqDiff, Nat.reduceLT, reduceIte, reduceCtorEq, Int.reduceLE, Int.reduceLT, Int.reduceEq, Int.reduceAdd, Int.reduceMul, Int.reduceSub, Nat.reduceMul, Nat.reduceSub, Nat.reducePow, Nat.reduceLeDiff, Int.reduceToNat, Tryz.f66, DD, beq_self_eq_true, Bool.not_false, Bool.not_true, WI, IA, hv, w1, w2, w4, w5, w6]
    refine callK_of false annulusref1_Norm.call (q) rfl rfl (by simp [ownOK, own1, hd, fzH, fzArgs, fzCells, fz, IA, WI, U32]) (by simp [U32, isD_u32, isD_v, isD_nil, isD_agg, IA, WI]) ?_
    simp -implicitDefEqProofs only [go_sem, Nat.reduceAdd, Nat.reduceEqDiff, Nat.reduceLT, reduceIte, reduceCtorEq, Int.reduceLE, Int.reduceLT, Int.reduceEq, Int.reduceAdd, Int.reduceMul, Int.reduceSub, Nat.reduceMul, Nat.reduceSub, Nat.reducePow, Nat.reduceLeDiff, Int.reduceToNat, DD, x_app, x_ga0, x_gas, x_gan, Int.cast_ofNat_Int, eq_self, Int.zero_lt_one, Bool.not_false, Bool.not_true, beq_self_eq_true, WI, IA, hv, w1, w2, w4, w5, w6]
  · have e : iv false [N % 4294967296, N / 4294967296] = v := by unfold iv; rw [hnv, if_neg (by simp)]; omega
    have q := rnorm_sat false [N % 4294967296, N / 4294967296] hlm (by simp)
    rw [e] at q
    have w1 : IntKind.u64.wrap v = (N : Int) := by rw [wrap_u64']; omega
    simp -implicitDefEqProofs only [go_sem, Nat.reduceAdd, Nat.reduceEqDiff, Nat.reduceLT, reduceIte, reduceCtorEq, Int.reduceLE, Int.reduceLT, Int.reduceEq, Int.reduceAdd, Int.reduceMul, Int.reduceSub, Nat.reduceMul, Nat.reduceSub, Nat.reducePow, Nat.reduceLeDiff, Int.reduceToNat, Tryz.f66, DD, beq_self_eq_true, Bool.not_false, Bool.not_true, WI, IA, hv, w1, w4, w5, w6]
    refine callK_of false annulusref1_Norm.call (q) rfl rfl (by simp [ownOK, own1, hd, fzH, fzArgs, fzCells, fz, IA, WI, U32]) (by simp [U32, isD_u32, isD_v, isD_nil, isD_agg, IA, WI]) ?_
    simp -implicitDefEqProofs only [go_sem, Nat.reduceAdd, Nat.reduceEqDiff, Nat.reduceLT, reduceIte, reduceCtorEq, Int.reduceLE, Int.reduceLT, Int.reduceEq, Int.reduceAdd, Int.reduceMul, Int.reduceSub, Nat.reduceMul, Nat.reduceSub, Nat.reducePow, Nat.reduceLeDiff, Int.reduceToNat, DD, x_app, x_ga0, x_gas, x_gan, Int.cast_ofNat_Int, eq_self, Int.zero_lt_one, Bool.not_false, Bool.not_true, beq_self_eq_true, WI, IA, hv, w1, w4, w5, w6]
theorem iv_shl (n : Bool) (l : List Nat) (k : Nat) : iv n (lim (nv l * 2 ^ k)) = iv n l * 2 ^ k := by
  rw [iv_lim]; unfold iv
  have e : ((nv l * 2 ^ k : Nat) : Int) = (nv l : Int) * 2 ^ k := by simp
  rw [e]
  cases n <;> simp [Int.neg_mul]
theorem rshlint_sat (n : Bool) (l : List Nat) (c : Int) (hl : Lm l) (hla : l.length < 1099511627) : Sat CT false 120 [IA n l, I64 c] (WI (iv n l * 2 ^ shN c)) := by
  refine sat_of annulusref1_ShlInt.ok (by simp) ?_
  have DD := annulusref1_ShlInt.dr
  simp only [drP, drPx, drPt, drR, drS, drT, bodyOf, Tryz.f120, Nat.reduceEqDiff, reduceIte, true_and, and_true] at DD
  rw [← iv_shl]
  have g := lim_shl_len (L := 1099511627) hl (by omega) (shN c)
  have g2 := shN_le c
  have e1 := cutL_length l
  have q := rshl_sat (cutL l) c (Lm_cutL hl) (by omega)
  rw [nv_cutL] at q
  simp -implicitDefEqProofs only [go_sem, Nat.reduceAdd, Nat.reduceEqDiff, Nat.reduceLT, reduceIte, reduceCtorEq, Int.reduceLE, Int.reduceLT, Int.reduceEq, Int.reduceAdd, Int.reduceMul, Int.reduceSub, Nat.reduceMul, Nat.reduceSub, Nat.reducePow, Nat.reduceLeDiff, Int.reduceToNat, Tryz.f120, DD, beq_self_eq_true, Bool.not_false, Bool.not_true, WI, IA]
  refine callK_of false annulusref1_Trim.call (rtrim_sat l (by omega)) rfl rfl (by simp [ownOK, own1, hd, fzH, fzArgs, fzCells, fz, IA, WI, U32]) (by simp [U32, isD_u32, isD_v, isD_nil, isD_agg, IA, WI]) ?_
  simp -implicitDefEqProofs only [go_sem, Nat.reduceAdd, Nat.reduceEqDiff, Nat.reduceLT, reduceIte, reduceCtorEq, Int.reduceLE, Int.reduceLT, Int.reduceEq, Int.reduceAdd, Int.reduceMul, Int.reduceSub, Nat.reduceMul, Nat.reduceSub, Nat.reducePow, Nat.reduceLeDiff, Int.reduceToNat, DD, x_app, x_ga0, x_gas, x_gan, Int.cast_ofNat_Int, eq_self, Int.zero_lt_one, Bool.not_false, Bool.not_true, beq_self_eq_true, WI, IA]
  refine callK_of false annulusref1_Shl.call (q) rfl rfl (by simp [ownOK, own1, hd, fzH, fzArgs, fzCells, fz, IA, WI, U32]) (by simp [U32, isD_u32, isD_v, isD_nil, isD_agg, IA, WI]) ?_
  simp -implicitDefEqProofs only [go_sem, Nat.reduceAdd, Nat.reduceEqDiff, Nat.reduceLT, reduceIte, reduceCtorEq, Int.reduceLE, Int.reduceLT, Int.reduceEq, Int.reduceAdd, Int.reduceMul, Int.reduceSub, Nat.reduceMul, Nat.reduceSub, Nat.reducePow, Nat.reduceLeDiff, Int.reduceToNat, DD, x_app, x_ga0, x_gas, x_gan, Int.cast_ofNat_Int, eq_self, Int.zero_lt_one, Bool.not_false, Bool.not_true, beq_self_eq_true, WI, IA]
  refine callK_of false annulusref1_Norm.call (rnorm_sat n _ (Lm_lim _) (by omega)) rfl rfl (by simp [ownOK, own1, hd, fzH, fzArgs, fzCells, fz, IA, WI, U32]) (by simp [U32, isD_u32, isD_v, isD_nil, isD_agg, IA, WI]) ?_
  simp -implicitDefEqProofs only [go_sem, Nat.reduceAdd, Nat.reduceEqDiff, Nat.reduceLT, reduceIte, reduceCtorEq, Int.reduceLE, Int.reduceLT, Int.reduceEq, Int.reduceAdd, Int.reduceMul, Int.reduceSub, Nat.reduceMul, Nat.reduceSub, Nat.reducePow, Nat.reduceLeDiff, Int.reduceToNat, DD, x_app, x_ga0, x_gas, x_gan, Int.cast_ofNat_Int, eq_self, Int.zero_lt_one, Bool.not_false, Bool.not_true, beq_self_eq_true, WI, IA]
end Go.Ab

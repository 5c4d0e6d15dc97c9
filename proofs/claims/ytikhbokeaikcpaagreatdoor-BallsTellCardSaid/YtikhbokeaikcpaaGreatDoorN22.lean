/- Contracts of this seat's functions (of each call: what it answers), walked over the abstract machine, and the laws of numbers that they want. Conditions: those that each theorem states. -/
import Derived.Test.YtikhbokeaikcpaaGreatDoorW4
set_option linter.unusedVariables false
set_option maxRecDepth 20000
set_option linter.unusedSimpArgs false
namespace Go.Ab
open Go.Proofs
theorem rshl_satT (A : List Nat) (n0 : Int) (ha : Lm A) (hla : A.length < 1099511627776) : Sat CT true 144 [U32 A, I64 n0] (U32 (lim (nv A * 2 ^ shN n0))) := by
  refine sat_of_own annulusref1_Shl.ok (by simp) ?_
  have DD := annulusref1_Shl.dr
  simp only [drP, drPx, drPt, drR, drS, drT, bodyOf, Tryz.f144, Nat.reduceEqDiff, reduceIte, true_and, and_true] at DD
  obtain ⟨n, hn, hnN, hnI⟩ : ∃ n : Nat, n ≤ 100000 ∧ shN n0 = n ∧ min (max n0 0) 100000 = (n : Int) := ⟨shN n0, shN_le n0, rfl, by unfold shN; omega⟩
  rw [hnN]
  obtain ⟨q, r, hr, hqr, ht1, ht2⟩ : ∃ q r : Nat, r < 32 ∧ n = 32 * q + r ∧ IntKind.i64.wrap ((n : Int).tdiv 32) = (q : Int) ∧ (n : Int).tmod 32 = (r : Int) := by
    refine ⟨n / 32, n % 32, by omega, by omega, ?_, ?_⟩
    · rw [Int.tdiv_eq_ediv_of_nonneg (by omega), wrap_i64 (by omega) (by omega)]; omega
    · rw [Int.tmod_eq_emod_of_nonneg (by omega)]; omega
  have c2 : max 0 (min n0 100000) = ((n : Nat) : Int) := by omega
  have c3 : IntKind.i64.wrap ((A.length : Int) + (q : Int)) = ((A.length + q : Nat) : Int) := by rw [wrap_i64 (by omega) (by omega)]; omega
  have c4 := incI (j := A.length + q) (by omega)
  have c5 : (0 : Int) ≤ ((A.length + q + 1 : Nat) : Int) := by omega
  have g1 : (0 : Int) ≤ (r : Int) := by omega
  have g2 : min r 64 = r := by omega
  have g3 : IntKind.u64.wrap (r : Int) = (r : Int) := wrap64n (by omega)
  simp -implicitDefEqProofs only [go_sem, Nat.reduceAdd, Nat.reduceEqDiff, Nat.reduceLT, reduceIte, reduceCtorEq, Int.reduceLE, Int.reduceLT, Int.reduceEq, Int.reduceAdd, Int.reduceMul, Int.reduceSub, Nat.reduceMul, Nat.reduceSub, Nat.reducePow, Nat.reduceLeDiff, Int.reduceToNat, Tryz.f144, DD, c2, c3, c4, c5, ht1, ht2]
  refine ⟨⟨by omega, by omega⟩, ?_⟩
  refine loop_of aW0_mono (fun m σ => ∃ sl out i, σ = ⟨sl, [⟨u32s out, true, true⟩]⟩ ∧ m = A.length - i ∧ i ≤ A.length ∧ out.length = A.length + q + 1 ∧ Lm out ∧
      look sl 0 = .sl A.length (u32s A) ∧ look sl 5 = I64 (n : Nat) ∧ look sl 6 = .own 1 0 0 (A.length + q + 1) ∧ look sl 7 = I64 (i : Nat) ∧
      out.getD (i + q) 0 = cry A r i ∧ nv (out.take (q + i)) + 4294967296 ^ (q + i) * cry A r i = 4294967296 ^ q * (2 ^ r * nv (A.take i))) ?_ (n := A.length)
      ⟨_, List.replicate (A.length + q + 1) 0, 0, rfl, rfl, by omega, by simp, Lm_rep _, by simp [x_look], by simp [x_look], by simp [x_look], by simp [x_look], by simp [List.getD_eq_getElem?_getD, List.getElem?_replicate, cry, prv]; split <;> rfl, by rw [List.take_replicate, nv_rep]; simp [nv, cry, prv]⟩
  rintro m _ ⟨sl, out, i, rfl, rfl, hi, hlen, hLm, h0, h5, h6, h7, hcr, hinv⟩
  by_cases hlt : i < A.length
  · have d1 : (i : Int) < (A.length : Int) := by omega
    have d2 : IntKind.i64.wrap ((i : Int) + (q : Int)) = ((i + q : Nat) : Int) := by rw [wrap_i64 (by omega) (by omega)]; omega
    have d3 := incI (j := i + q) (by omega)
    have d4 := getD_u32s hlt
    have d5 : (0 : Int) ≤ (i : Int) := by omega
    have hX := Lm_getD ha i
    have sX := sh_mul_lt hX hr
    have hcy := cry_lt ha r i
    have hup := up_step (o := nv (out.take (q + i))) (q := q) ha hr hinv
    have hp := (pow_r_lt hr).1
    have hmod := sh_mod (X := A.getD i 0) hr hcy
    have hcs : cry A r (i + 1) = A.getD i 0 * 2 ^ r / 4294967296 := by simp [cry, prv_succ]
    have hcy2 := cry_lt ha r (i + 1)
    have w1 : IntKind.u64.wrap ((A.getD i 0 : Nat) * (2 : Int) ^ r) = ((A.getD i 0 * 2 ^ r : Nat) : Int) := by rw [show ((A.getD i 0 : Nat) : Int) * (2 : Int) ^ r = ((A.getD i 0 * 2 ^ r : Nat) : Int) by simp]; exact wrap64n (by omega)
    have w2 : IntKind.u64.wrap ((A.getD i 0 : Nat) : Int) = ((A.getD i 0 : Nat) : Int) := wrap64n (by omega)
    have w3 := fdiv32 (A.getD i 0 * 2 ^ r)
    rw [← hcs] at w3
    have w4 := wrap32n (A.getD i 0 * 2 ^ r)
    have w5 : IntKind.u32.wrap ((cry A r (i + 1) : Nat) : Int) = ((cry A r (i + 1) : Nat) : Int) := by rw [wrap_u32]; omega
    have hml : A.getD i 0 * 2 ^ r % 4294967296 < 4294967296 := Nat.mod_lt _ (by omega)
    have hsum : A.getD i 0 * 2 ^ r % 4294967296 + cry A r i < 4294967296 := by rw [← hmod]; exact Nat.mod_lt _ (by omega)
    have hor : cry A r i ||| A.getD i 0 * 2 ^ r % 4294967296 = A.getD i 0 * 2 ^ r % 4294967296 + cry A r i := by
      obtain ⟨z, hz⟩ : ∃ z, A.getD i 0 * 2 ^ r % 4294967296 = 2 ^ r * z := by
        refine ⟨A.getD i 0 % 2 ^ (32 - r), ?_⟩
        rw [← pow_r hr, Nat.mul_comm, Nat.mul_mod_mul_left]
      rw [hz, Nat.or_comm, Nat.two_pow_add_eq_or_of_lt hcy]
    have w6 := or32 (a := cry A r i) (b := A.getD i 0 * 2 ^ r % 4294967296) (by omega) hml
    rw [hor, ← hmod] at w6
    rw [← hmod] at hsum
    have w7 := incI (j := i) (by omega)
    generalize hL : (A.getD i 0 * 2 ^ r + cry A r i) % 4294967296 = lo at *
    have e3 : (0 : Int) ≤ ((i + q : Nat) : Int) := by omega
    have e4 : ((i + q : Nat) : Int) < ((A.length + q + 1 : Nat) : Int) := by omega
    have e5 : i + q < A.length + q + 1 := by omega
    have e6 : i + q < out.length := by omega
    have e7 : i + q + 1 ≤ out.length := by omega
    have e8 := getD_u32s e6
    rw [hcr] at e8
    have f3 : (0 : Int) ≤ ((i + q + 1 : Nat) : Int) := by omega
    have f4 : ((i + q + 1 : Nat) : Int) < ((A.length + q + 1 : Nat) : Int) := by omega
    have f5 : i + q + 1 < A.length + q + 1 := by omega
    have f6 : i + q + 1 < (out.set (i + q) lo).length := by simp; omega
    have f7 : i + q + 1 + 1 ≤ (out.set (i + q) lo).length := by simp; omega
    have s1 := spl_u32s (l := out) (i := i + q) (x := (lo : Int)) e6 (by omega)
    have s2 := spl_u32s (l := out.set (i + q) lo) (i := i + q + 1) (x := ((cry A r (i + 1) : Nat) : Int)) f6 (by omega)
    have s3 : leafA (.v (.int .u32 (lo : Int))) = true := rfl
    have s4 : leafA (.v (.int .u32 ((cry A r (i + 1) : Nat) : Int))) = true := rfl
    simp -implicitDefEqProofs only [go_sem, Nat.reduceAdd, Nat.reduceEqDiff, Nat.reduceLT, reduceIte, reduceCtorEq, Int.reduceLE, Int.reduceLT, Int.reduceEq, Int.reduceAdd, Int.reduceMul, Int.reduceSub, Nat.reduceMul, Nat.reduceSub, Nat.reducePow, Nat.reduceLeDiff, Int.reduceToNat, DD, h0, h5, h6, h7, ht1, ht2, d1, d2, d3, d4, d5, hlt, w1, w2, w3, w4, w5, w6, w7, g1, g2, g3, e3, e4, e5, e6, e7, e8, f3, f4, f5, f6, f7, s1, s2, s3, s4, List.all_cons, List.all_nil, Bool.and_true, Bool.and_self, Int.toNat_natCast]
    refine ⟨A.length - (i + 1), by omega, _, (out.set (i + q) lo).set (i + q + 1) (cry A r (i + 1)), i + 1, rfl, rfl, by omega, by simp [hlen], Lm_set (Lm_set hLm (by omega)) (by omega), by simp [x_look, h0], by simp [x_look, h5], by simp [x_look, h6], by simp [x_look], ?_, ?_⟩
    · rw [show i + 1 + q = i + q + 1 by omega, List.getD_eq_getElem?_getD, List.getElem?_set_self f6]; rfl
    · rw [take_set_lt (by omega), show q + (i + 1) = i + q + 1 by omega, nv_set_zero e6, show i + q = q + i by omega]
      exact hup
  · have d1 : ¬ ((i : Int) < (A.length : Int)) := by omega
    have hie : i = A.length := by omega
    subst hie
    simp -implicitDefEqProofs only [go_sem, Nat.reduceAdd, Nat.reduceEqDiff, Nat.reduceLT, reduceIte, reduceCtorEq, Int.reduceLE, Int.reduceLT, Int.reduceEq, Int.reduceAdd, Int.reduceMul, Int.reduceSub, Nat.reduceMul, Nat.reduceSub, Nat.reducePow, Nat.reduceLeDiff, Int.reduceToNat, DD, h0, h5, h6, h7, d1]
    rw [nv_take_all (l := A) (by omega), ← hcr, show A.length + q = q + A.length by omega, ← nv_take_succ, nv_take_all (l := out) (by omega), up_done, ← hqr] at hinv
    have e4 : cutL out = lim (nv A * 2 ^ n) := by rw [cutL_lim hLm, hinv]
    rw [← hlen]
    refine callK_own (rtrim_hsat out (by omega)) ?_
    rintro _ _ ⟨rfl, rfl⟩
    have e5 := cutL_length out
    have e6 := cutL_take out
    simp -implicitDefEqProofs only [go_sem, Nat.reduceAdd, Nat.reduceEqDiff, Nat.reduceLT, reduceIte, reduceCtorEq, Int.reduceLE, Int.reduceLT, Int.reduceEq, Int.reduceAdd, Int.reduceMul, Int.reduceSub, Nat.reduceMul, Nat.reduceSub, Nat.reducePow, Nat.reduceLeDiff, Int.reduceToNat, DD]
    rw [← e4]
    refine ⟨1, 0, 0, rfl, rfl, ?_, ?_⟩
    · simp [hd]; omega
    · simp [hd, take_u32s, e6]
end Go.Ab

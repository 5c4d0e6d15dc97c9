/- Contracts of this seat's functions (of each call: what it answers), walked over the abstract machine, and the laws of numbers that they want. Conditions: those that each theorem states. -/
import Derived.Test.YtikemgpeiecdcaaGreatDoorN8
set_option linter.unusedVariables false
set_option maxRecDepth 20000
set_option linter.unusedSimpArgs false
namespace Go.Ab
open Go.Proofs

theorem callK_u32b {f : FuncId} {m : List Nat} {o : AObj} {n : Nat} {r : AV} {K : AV → Heap → Prop} (hc : callable CT.P f = true) (h : Sat CT false f [U32 m] r) (hn : m.length = n) (hK : K r [o, ⟨u32s m, true, false⟩]) :
    callK CT false f [.own 1 1 0 n] [o, ⟨u32s m, true, true⟩] K := by
  subst hn
  exact callK_of (H' := [o, ⟨u32s m, true, false⟩]) false hc h rfl (by simp only [List.map_cons, List.map_nil, snap_own, hd, List.getD_cons_zero, List.getD_cons_succ, List.drop_zero, Nat.mul_one, take_u32s, List.take_length, snap0_u32s, U32]) (by simp [ownOK, hd]) (by simp [U32, isD_u32]) hK

theorem rbit_sat (a : List Nat) (n : Nat) (ha : Lm a) (hla : a.length < 1099511627776) (hn : n < 4611686018427387904) : Sat CT false 95 [U32 a, I64 (n : Nat)] (Bo ((nv a).testBit n)) := by
  refine sat_of annulusref1_Bit.ok (by simp) ?_
  have DD := annulusref1_Bit.dr
  simp only [drP, drPx, drR, drS, bodyOf, Tryz.f95, Nat.reduceEqDiff, reduceIte, true_and, and_true] at DD
  obtain ⟨q, r, hr, hqr, ht1, ht2⟩ : ∃ q r : Nat, r < 32 ∧ n = 32 * q + r ∧ IntKind.i64.wrap ((n : Int).tdiv 32) = (q : Int) ∧ (n : Int).tmod 32 = (r : Int) := by
    refine ⟨n / 32, n % 32, by omega, by omega, ?_, ?_⟩
    · rw [Int.tdiv_eq_ediv_of_nonneg (by omega), wrap_i64 (by omega) (by omega)]; omega
    · rw [Int.tmod_eq_emod_of_nonneg (by omega)]; omega
  have c1 : (0 : Int) ≤ (n : Int) := by omega
  have hb := testBit_nv ha q hr
  rw [← hqr] at hb
  by_cases hq : q < a.length
  · have c2 : (q : Int) < (a.length : Int) := by omega
    have c3 : (0 : Int) ≤ (q : Int) := by omega
    have c4 := getD_u32s hq
    have g1 : (0 : Int) ≤ (r : Int) := by omega
    have g2 : min r 32 = r := by omega
    have g3 : IntKind.u64.wrap (r : Int) = (r : Int) := wrap64n (by omega)
    have hX := Lm_getD ha q
    generalize a.getD q 0 = X at *
    have w1 : ((X : Int)).fdiv (2 ^ r) = ((X / 2 ^ r : Nat) : Int) := by
      rw [Int.fdiv_eq_ediv_of_nonneg _ (Int.pow_nonneg (by decide))]; simp
    have w2 := and32 (a := X / 2 ^ r) (b := 1) (Nat.lt_of_le_of_lt (Nat.div_le_self _ _) hX) (by omega)
    have w3 := testBit_dec X r
    rw [← hb] at w3
    have w2' : bits .and .u32 ((X / 2 ^ r : Nat) : Int) 1 = ((X / 2 ^ r &&& 1 : Nat) : Int) := w2
    generalize X / 2 ^ r = Z at *
    by_cases hz : ((Z &&& 1 : Nat) : Int) = 1
    · rw [decide_eq_true hz] at w3
      simp -implicitDefEqProofs only [go_sem, Nat.reduceAdd, Nat.reduceEqDiff, Nat.reduceLT, reduceIte, reduceCtorEq, Int.reduceLE, Int.reduceLT, Int.reduceEq, Int.reduceAdd, Int.reduceMul, Int.reduceSub, Nat.reduceMul, Nat.reduceSub, Nat.reducePow, Nat.reduceLeDiff, Int.reduceToNat, Tryz.f95, DD, ht1, ht2, c1, c2, c3, c4, hq, g1, g2, g3, w1, w2', hz, ← w3]
    · rw [decide_eq_false hz] at w3
      simp -implicitDefEqProofs only [go_sem, Nat.reduceAdd, Nat.reduceEqDiff, Nat.reduceLT, reduceIte, reduceCtorEq, Int.reduceLE, Int.reduceLT, Int.reduceEq, Int.reduceAdd, Int.reduceMul, Int.reduceSub, Nat.reduceMul, Nat.reduceSub, Nat.reducePow, Nat.reduceLeDiff, Int.reduceToNat, Tryz.f95, DD, ht1, ht2, c1, c2, c3, c4, hq, g1, g2, g3, w1, w2', hz, ← w3]
  · have c2 : ¬ (q : Int) < (a.length : Int) := by omega
    have c3 : a.getD q 0 = 0 := by simp [List.getD_eq_getElem?_getD, Nat.not_lt.mp hq]
    rw [c3, Nat.zero_testBit] at hb
    simp -implicitDefEqProofs only [go_sem, Nat.reduceAdd, Nat.reduceEqDiff, Nat.reduceLT, reduceIte, reduceCtorEq, Int.reduceLE, Int.reduceLT, Int.reduceEq, Int.reduceAdd, Int.reduceMul, Int.reduceSub, Nat.reduceMul, Nat.reduceSub, Nat.reducePow, Nat.reduceLeDiff, Int.reduceToNat, Tryz.f95, DD, ht1, ht2, c1, c2, hb]

theorem rlow_sat (a : List Nat) (ha : Lm a) (hla : a.length < 1099511627776) : Sat CT false 75 [U32 a] (I64 (tz (nv a) : Nat)) := by
  refine sat_of annulusref1_Low.ok (by simp) ?_
  have DD := annulusref1_Low.dr
  simp only [drP, drPx, drR, drS, bodyOf, Tryz.f75, Nat.reduceEqDiff, reduceIte, true_and, and_true] at DD
  simp -implicitDefEqProofs only [go_sem, Nat.reduceAdd, Nat.reduceEqDiff, Nat.reduceLT, reduceIte, reduceCtorEq, Int.reduceLE, Int.reduceLT, Int.reduceEq, Int.reduceAdd, Int.reduceMul, Int.reduceSub, Nat.reduceMul, Nat.reduceSub, Nat.reducePow, Nat.reduceLeDiff, Int.reduceToNat, Tryz.f75, DD]
  refine callK_of false annulusref1_Trim.call (rtrim_sat a (by omega)) rfl rfl (by simp [ownOK]) (by simp [U32, isD_u32, IsD.v]) ?_
  have e1 := cutL_length a
  have f1 := cutL_lim ha
  have f3 := nv_cutL a
  have ha := Lm_cutL ha
  rw [← f3] at f1 ⊢
  generalize cutL a = A at *
  by_cases hA : A.length = 0
  · have c1 : (A.length : Int) = 0 := by omega
    have c2 : tz (nv A) = 0 := by rw [nv_nil_of hA, tz]; rfl
    simp -implicitDefEqProofs only [go_sem, Nat.reduceAdd, Nat.reduceEqDiff, Nat.reduceLT, reduceIte, reduceCtorEq, Int.reduceLE, Int.reduceLT, Int.reduceEq, Int.reduceAdd, Int.reduceMul, Int.reduceSub, Nat.reduceMul, Nat.reduceSub, Nat.reducePow, Nat.reduceLeDiff, Int.reduceToNat, DD, c1, c2]
  · have c1 : ¬ ((A.length : Int) = 0) := by omega
    have hne : nv A ≠ 0 := fun h => hA (by rw [f1, h, lim_zero]; rfl)
    obtain ⟨hb1, hb2⟩ := tz_bit hne
    have hlt := nv_lt ha
    rw [show (4294967296 : Nat) ^ A.length = 2 ^ (32 * A.length) by rw [Nat.pow_mul]] at hlt
    have ht := tz_lt hne hlt
    simp -implicitDefEqProofs only [go_sem, Nat.reduceAdd, Nat.reduceEqDiff, Nat.reduceLT, reduceIte, reduceCtorEq, Int.reduceLE, Int.reduceLT, Int.reduceEq, Int.reduceAdd, Int.reduceMul, Int.reduceSub, Nat.reduceMul, Nat.reduceSub, Nat.reducePow, Nat.reduceLeDiff, Int.reduceToNat, DD, c1]
    refine loop_of aW0_mono (fun m σ => ∃ sl n, σ = ⟨sl, []⟩ ∧ m = tz (nv A) - n ∧ n ≤ tz (nv A) ∧ look sl 3 = .sl A.length (u32s A) ∧ look sl 4 = I64 (n : Nat)) ?_ (n := tz (nv A))
      ⟨_, 0, rfl, rfl, by omega, by simp [x_look], by simp [x_look]⟩
    rintro m _ ⟨sl, n, rfl, rfl, hn, h3, h4⟩
    simp -implicitDefEqProofs only [go_sem, Nat.reduceAdd, Nat.reduceEqDiff, Nat.reduceLT, reduceIte, reduceCtorEq, Int.reduceLE, Int.reduceLT, Int.reduceEq, Int.reduceAdd, Int.reduceMul, Int.reduceSub, Nat.reduceMul, Nat.reduceSub, Nat.reducePow, Nat.reduceLeDiff, Int.reduceToNat, DD, h3, h4]
    refine callK_of false annulusref1_Bit.call (rbit_sat A n ha (by omega) (by omega)) rfl rfl (by simp [ownOK]) (by simp [U32, isD_u32, IsD.v]) ?_
    by_cases hz : n = tz (nv A)
    · subst hz
      simp -implicitDefEqProofs only [go_sem, Nat.reduceAdd, Nat.reduceEqDiff, Nat.reduceLT, reduceIte, reduceCtorEq, Int.reduceLE, Int.reduceLT, Int.reduceEq, Int.reduceAdd, Int.reduceMul, Int.reduceSub, Nat.reduceMul, Nat.reduceSub, Nat.reducePow, Nat.reduceLeDiff, Int.reduceToNat, DD, h3, h4, hb1, Bool.not_true, Bool.not_false, Bool.false_eq_true]
    · have hf := hb2 n (by omega)
      have d2 := incI (j := n) (by omega)
      simp -implicitDefEqProofs only [go_sem, Nat.reduceAdd, Nat.reduceEqDiff, Nat.reduceLT, reduceIte, reduceCtorEq, Int.reduceLE, Int.reduceLT, Int.reduceEq, Int.reduceAdd, Int.reduceMul, Int.reduceSub, Nat.reduceMul, Nat.reduceSub, Nat.reducePow, Nat.reduceLeDiff, Int.reduceToNat, DD, h3, h4, hf, d2, Bool.not_true, Bool.not_false, Bool.false_eq_true]
      exact ⟨tz (nv A) - (n + 1), by omega, _, n + 1, rfl, rfl, by omega, by simp [x_look, h3], by simp [x_look]⟩
end Go.Ab

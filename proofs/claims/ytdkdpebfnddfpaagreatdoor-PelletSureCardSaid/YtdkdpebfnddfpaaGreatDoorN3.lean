/- Contracts of this seat's functions (of each call: what it answers), walked over the abstract machine, and the laws of numbers that they want. Conditions: those that each theorem states. -/
import Derived.Test.YtdkdpebfnddfpaaGreatDoorN2
set_option linter.unusedVariables false
set_option maxRecDepth 20000
set_option linter.unusedSimpArgs false
namespace Go.Ab
open Go.Proofs

theorem same_sat (a b : List Nat) (hla : a.length < 1099511627776) (hlb : b.length < 1099511627776) : Sat CT false 51 [U32 a, U32 b] (Bo (decide (a = b))) := by
  refine sat_of annulusref1_Same.ok (by simp) ?_
  have DD := annulusref1_Same.dr
  simp only [drP, drPx, drPt, drR, drS, drT, bodyOf, Tryz.f51, Nat.reduceEqDiff, reduceIte, true_and, and_true] at DD
  by_cases hl : a.length = b.length
  · have c1 : (a.length : Int) = b.length := by omega
    simp -implicitDefEqProofs only [go_sem, Nat.reduceAdd, Nat.reduceEqDiff, Nat.reduceLT, reduceIte, reduceCtorEq, Int.reduceLE, Int.reduceLT, Int.reduceEq, Int.reduceAdd, Int.reduceMul, Int.reduceSub, Nat.reduceMul, Nat.reduceSub, Nat.reducePow, Nat.reduceLeDiff, Int.reduceToNat, Tryz.f51, DD, c1]
    refine loop_of aW0_mono (fun m σ => ∃ sl j, σ = ⟨sl, []⟩ ∧ m = a.length - j ∧ j ≤ a.length ∧ look sl 0 = .sl a.length (u32s a) ∧ look sl 1 = .sl b.length (u32s b) ∧ look sl 5 = I64 (j : Nat) ∧ a.take j = b.take j) ?_ (n := a.length)
      ⟨_, 0, rfl, rfl, by omega, by simp [x_look, hl], by simp [x_look, hl], by simp [x_look], rfl⟩
    rintro m _ ⟨sl, j, rfl, rfl, hj, h0, h1, h5, hinv⟩
    by_cases hlt : j < a.length
    · have d1 : (j : Int) < (a.length : Int) := by omega
      have d1' : (j : Int) < (b.length : Int) := by omega
      have d2 : (0 : Int) ≤ (j : Int) := by omega
      have d3 := getD_u32s hlt
      have d4 := getD_u32s (l := b) (i := j) (by omega)
      have d5 : j < b.length := by omega
      by_cases he : a.getD j 0 = b.getD j 0
      · have d6 : ((a.getD j 0 : Nat) : Int) = ((b.getD j 0 : Nat) : Int) := by rw [he]
        have d7 := incI (j := j) (by omega)
        simp -implicitDefEqProofs only [go_sem, Nat.reduceAdd, Nat.reduceEqDiff, Nat.reduceLT, reduceIte, reduceCtorEq, Int.reduceLE, Int.reduceLT, Int.reduceEq, Int.reduceAdd, Int.reduceMul, Int.reduceSub, Nat.reduceMul, Nat.reduceSub, Nat.reducePow, Nat.reduceLeDiff, Int.reduceToNat, DD, h0, h1, h5, hl, d1, d1', d2, d3, d4, d5, d6, d7, hlt]
        refine ⟨a.length - (j + 1), by omega, _, j + 1, rfl, by omega, by omega, by simp [x_look, h0, hl], by simp [x_look, h1, hl], by simp [x_look], ?_⟩
        rw [take_succ_getD a hlt, take_succ_getD b (by omega), hinv, he]
      · have d6 : ¬ ((a.getD j 0 : Nat) : Int) = ((b.getD j 0 : Nat) : Int) := by omega
        have d7 : decide (a = b) = false := by simp; intro h; exact he (by rw [h])
        simp -implicitDefEqProofs only [go_sem, Nat.reduceAdd, Nat.reduceEqDiff, Nat.reduceLT, reduceIte, reduceCtorEq, Int.reduceLE, Int.reduceLT, Int.reduceEq, Int.reduceAdd, Int.reduceMul, Int.reduceSub, Nat.reduceMul, Nat.reduceSub, Nat.reducePow, Nat.reduceLeDiff, Int.reduceToNat, DD, h0, h1, h5, hl, d1, d1', d2, d3, d4, d5, d6, d7, hlt]
    · have d1 : ¬ ((j : Int) < (a.length : Int)) := by omega
      have d1' : ¬ ((j : Int) < (b.length : Int)) := by omega
      have d7 : decide (a = b) = true := by
        have := hinv
        rw [List.take_of_length_le (by omega), List.take_of_length_le (by omega)] at this
        simp [this]
      simp -implicitDefEqProofs only [go_sem, Nat.reduceAdd, Nat.reduceEqDiff, Nat.reduceLT, reduceIte, reduceCtorEq, Int.reduceLE, Int.reduceLT, Int.reduceEq, Int.reduceAdd, Int.reduceMul, Int.reduceSub, Nat.reduceMul, Nat.reduceSub, Nat.reducePow, Nat.reduceLeDiff, Int.reduceToNat, DD, h0, h1, h5, hl, d1, d1', d7]
  · have c1 : ¬ (a.length : Int) = b.length := by omega
    have c2 : decide (a = b) = false := by simp; intro h; exact hl (by rw [h])
    simp -implicitDefEqProofs only [go_sem, Nat.reduceAdd, Nat.reduceEqDiff, Nat.reduceLT, reduceIte, reduceCtorEq, Int.reduceLE, Int.reduceLT, Int.reduceEq, Int.reduceAdd, Int.reduceMul, Int.reduceSub, Nat.reduceMul, Nat.reduceSub, Nat.reducePow, Nat.reduceLeDiff, Int.reduceToNat, Tryz.f51, DD, c1, c2]

theorem rtrim_sat (l : List Nat) (hl : l.length < 4611686018427387904) : Sat CT false 85 [U32 l] (U32 (cutL l)) := by
  refine sat_of annulusref1_Trim.ok (by simp) ?_
  have DD := annulusref1_Trim.dr
  simp only [drP, drPx, drPt, drR, drS, drT, bodyOf, Tryz.f85, Nat.reduceEqDiff, reduceIte, true_and, and_true] at DD
  simp -implicitDefEqProofs only [go_sem, Nat.reduceAdd, Nat.reduceEqDiff, Nat.reduceLT, reduceIte, reduceCtorEq, Int.reduceLE, Int.reduceLT, Int.reduceEq, Int.reduceAdd, Int.reduceMul, Int.reduceSub, Nat.reduceMul, Nat.reduceSub, Nat.reducePow, Nat.reduceLeDiff, Int.reduceToNat, Tryz.f85, DD]
  refine loop_of aW0_mono (fun n σ => ∃ sl, σ = ⟨sl, []⟩ ∧ n ≤ l.length ∧ look sl 0 = .sl l.length (u32s l) ∧ look sl 3 = I64 (n : Nat) ∧ cutL (l.take n) = cutL l) ?_ (n := l.length) ⟨_, rfl, Nat.le_refl _, by simp only [x_look, reduceIte, Nat.reduceEqDiff], by simp only [x_look, reduceIte, Nat.reduceEqDiff], by rw [List.take_length]⟩
  rintro n _ ⟨sl, rfl, hn, h0, h3, hc⟩
  have hend : cutL (l.take n) = l.take n → (l.take n).length = n ∧ cutL l = l.take n := fun e => by
    have : cutL l = l.take n := by rw [← hc, e]
    exact ⟨by simp; omega, this⟩
  have c10 : (0 : Int) ≤ (n : Int) := by omega
  have c11 : (n : Int) ≤ (l.length : Int) := by omega
  by_cases hn0 : n = 0
  · subst hn0
    obtain ⟨e1, e2⟩ := hend rfl
    simp -implicitDefEqProofs only [go_sem, Nat.reduceAdd, Nat.reduceEqDiff, Nat.reduceLT, reduceIte, reduceCtorEq, Int.reduceLE, Int.reduceLT, Int.reduceEq, Int.reduceAdd, Int.reduceMul, Int.reduceSub, Nat.reduceMul, Nat.reduceSub, Nat.reducePow, Nat.reduceLeDiff, Int.reduceToNat, DD, h0, h3, Int.natCast_zero, Int.lt_irrefl, e1, e2, c11, c10, Nat.zero_le]
    exact ⟨by omega, rfl⟩
  · obtain ⟨k, rfl⟩ : ∃ k, n = k + 1 := ⟨n - 1, by omega⟩
    have hk : k < l.length := by omega
    have c1 : (0 : Int) < ((k + 1 : Nat) : Int) := by omega
    have c2 := decI (j := k) (by omega)
    have c3 : (0 : Int) ≤ (k : Int) := by omega
    have c4 : (k : Int) < (l.length : Int) := by omega
    have c5 := getD_u32s hk
    by_cases hz : l.getD k 0 = 0
    · have c8 : ((l.getD k 0 : Nat) : Int) = 0 := by omega
      simp -implicitDefEqProofs only [go_sem, Nat.reduceAdd, Nat.reduceEqDiff, Nat.reduceLT, reduceIte, reduceCtorEq, Int.reduceLE, Int.reduceLT, Int.reduceEq, Int.reduceAdd, Int.reduceMul, Int.reduceSub, Nat.reduceMul, Nat.reduceSub, Nat.reducePow, Nat.reduceLeDiff, Int.reduceToNat, DD, h0, h3, c1, c2, c3, c4, c5, c8, hk]
      refine ⟨k, by omega, _, rfl, by omega, ?_, ?_, ?_⟩
      · simp [x_look, h0]
      · simp only [x_look, reduceIte]
      · rw [← hc, take_succ_getD l hk, hz, cutL_zero]
    · have c8 : ¬ ((l.getD k 0 : Nat) : Int) = 0 := by omega
      obtain ⟨e1, e2⟩ := hend (by rw [take_succ_getD l hk, cutL_ne _ hz])
      simp -implicitDefEqProofs only [go_sem, Nat.reduceAdd, Nat.reduceEqDiff, Nat.reduceLT, reduceIte, reduceCtorEq, Int.reduceLE, Int.reduceLT, Int.reduceEq, Int.reduceAdd, Int.reduceMul, Int.reduceSub, Nat.reduceMul, Nat.reduceSub, Nat.reducePow, Nat.reduceLeDiff, Int.reduceToNat, DD, h0, h3, c1, c2, c3, c4, c5, c8, e1, e2, c10, c11, hk, hn]

theorem rat_nat (l : List Nat) (hm : Lm l) (j : Nat) : Sat CT false 97 [U32 l, I64 j] (W64 (l.getD j 0 : Nat)) := by
  refine sat_of annulusref1_at.ok (by simp) ?_
  by_cases h : j < l.length
  · have c3 : (0 : Int) ≤ (j : Int) := by omega
    have c4 : (j : Int) < (l.length : Int) := by omega
    have c5 := getD_u32s h
    have c6 : IntKind.u64.wrap ((l.getD j 0 : Nat) : Int) = ((l.getD j 0 : Nat) : Int) := by
      have := Lm_getD hm j
      exact wrap_u64 (by omega) (by omega)
    simp -implicitDefEqProofs only [go_sem, Nat.reduceAdd, Nat.reduceEqDiff, Nat.reduceLT, reduceIte, reduceCtorEq, Int.reduceLE, Int.reduceLT, Int.reduceEq, Int.reduceAdd, Int.reduceMul, Int.reduceSub, Nat.reduceMul, Nat.reduceSub, Nat.reducePow, Nat.reduceLeDiff, Int.reduceToNat, and_true, Tryz.f97, c3, c4, h, c5, c6, isD_v]
  · have c2 : ¬ ((j : Int) < (l.length : Int)) := by omega
    have c3 : l.getD j 0 = 0 := by simp [List.getD_eq_getElem?_getD, Nat.not_lt.mp h]
    simp -implicitDefEqProofs only [go_sem, Nat.reduceAdd, Nat.reduceEqDiff, Nat.reduceLT, reduceIte, reduceCtorEq, Int.reduceLE, Int.reduceLT, Int.reduceEq, Int.reduceAdd, Int.reduceMul, Int.reduceSub, Nat.reduceMul, Nat.reduceSub, Nat.reducePow, Nat.reduceLeDiff, Int.reduceToNat, and_true, Tryz.f97, c2, c3, isD_v]

theorem cmp_sat (a b : List Nat) (ha : Lm a) (hb : Lm b) (hla : a.length < 1099511627776) (hlb : b.length < 1099511627776) : Sat CT false 57 [U32 a, U32 b] (I64 (cmpN (nv a) (nv b))) := by
  refine sat_of nat_Cmp.ok (by simp) ?_
  have DD := nat_Cmp.dr
  simp only [drP, drPx, drPt, drR, drS, drT, bodyOf, Tryz.f57, Nat.reduceEqDiff, reduceIte, true_and, and_true] at DD
  simp -implicitDefEqProofs only [go_sem, Nat.reduceAdd, Nat.reduceEqDiff, Nat.reduceLT, reduceIte, reduceCtorEq, Int.reduceLE, Int.reduceLT, Int.reduceEq, Int.reduceAdd, Int.reduceMul, Int.reduceSub, Nat.reduceMul, Nat.reduceSub, Nat.reducePow, Nat.reduceLeDiff, Int.reduceToNat, Tryz.f57, DD]
  refine callK_of false nat_cut.call (cut_sat a (by omega)) rfl rfl (by simp [ownOK]) (by simp [U32, isD_u32]) ?_
  simp -implicitDefEqProofs only [go_sem, Nat.reduceAdd, Nat.reduceEqDiff, Nat.reduceLT, reduceIte, reduceCtorEq, Int.reduceLE, Int.reduceLT, Int.reduceEq, Int.reduceAdd, Int.reduceMul, Int.reduceSub, Nat.reduceMul, Nat.reduceSub, Nat.reducePow, Nat.reduceLeDiff, Int.reduceToNat, DD]
  refine callK_of false nat_cut.call (cut_sat b (by omega)) rfl rfl (by simp [ownOK]) (by simp [U32, isD_u32]) ?_
  have e1 := cutL_length a
  have e2 := cutL_length b
  have f1 := cutL_lim ha
  have f2 := cutL_lim hb
  have f3 := nv_cutL a
  have f4 := nv_cutL b
  have la := Lm_cutL ha
  have lb := Lm_cutL hb
  rw [← f3, ← f4]
  rw [← f3] at f1
  rw [← f4] at f2
  generalize cutL a = A at *
  generalize cutL b = B at *
  clear ha hb f3 f4
  by_cases hl : A.length = B.length
  · have c1 : (A.length : Int) = B.length := by omega
    have c2 : IntKind.i64.wrap ((B.length : Int) - 1) = (B.length : Int) - 1 := wrap_i64 (by omega) (by omega)
    simp -implicitDefEqProofs only [go_sem, Nat.reduceAdd, Nat.reduceEqDiff, Nat.reduceLT, reduceIte, reduceCtorEq, Int.reduceLE, Int.reduceLT, Int.reduceEq, Int.reduceAdd, Int.reduceMul, Int.reduceSub, Nat.reduceMul, Nat.reduceSub, Nat.reducePow, Nat.reduceLeDiff, Int.reduceToNat, DD, c1, c2]
    refine loop_of aW0_mono (fun m σ => ∃ sl, σ = ⟨sl, []⟩ ∧ m ≤ A.length ∧ look sl 0 = .sl A.length (u32s A) ∧ look sl 1 = .sl B.length (u32s B) ∧ look sl 5 = I64 ((m : Int) - 1) ∧ A.drop m = B.drop m) ?_ (n := A.length)
      ⟨_, rfl, by omega, by simp [x_look, hl], by simp [x_look, hl], by simp [x_look, hl], by rw [List.drop_of_length_le (by omega), List.drop_of_length_le (by omega)]⟩
    rintro m _ ⟨sl, rfl, hm, h0, h1, h5, hinv⟩
    cases m with
    | zero =>
      have d1 : ¬ ((0 : Int) ≤ ((0 : Nat) : Int) - 1) := by omega
      have d2 := cmpN_eq (show nv A = nv B by simp at hinv; rw [hinv])
      simp -implicitDefEqProofs only [go_sem, Nat.reduceAdd, Nat.reduceEqDiff, Nat.reduceLT, reduceIte, reduceCtorEq, Int.reduceLE, Int.reduceLT, Int.reduceEq, Int.reduceAdd, Int.reduceMul, Int.reduceSub, Nat.reduceMul, Nat.reduceSub, Nat.reducePow, Nat.reduceLeDiff, Int.reduceToNat, DD, h0, h1, h5, d1, d2]
    | succ k =>
      have d0 : ((k + 1 : Nat) : Int) - 1 = (k : Int) := by omega
      have d1 : (0 : Int) ≤ (k : Int) := by omega
      have d2 : (k : Int) < (A.length : Int) := by omega
      have d3 : (k : Int) < (B.length : Int) := by omega
      have d4 : k < A.length := by omega
      have d5 : k < B.length := by omega
      have d6 := getD_u32s d4
      have d7 := getD_u32s d5
      have d8 : IntKind.i64.wrap ((k : Int) - 1) = (k : Int) - 1 := wrap_i64 (by omega) (by omega)
      rw [d0] at h5
      rcases Nat.lt_trichotomy (A.getD k 0) (B.getD k 0) with q | q | q
      · have d9 : ((A.getD k 0 : Nat) : Int) < ((B.getD k 0 : Nat) : Int) := by omega
        have d10 := cmpN_lt (nv_lt_drop la d4 d5 hinv q)
        simp -implicitDefEqProofs only [go_sem, Nat.reduceAdd, Nat.reduceEqDiff, Nat.reduceLT, reduceIte, reduceCtorEq, Int.reduceLE, Int.reduceLT, Int.reduceEq, Int.reduceAdd, Int.reduceMul, Int.reduceSub, Nat.reduceMul, Nat.reduceSub, Nat.reducePow, Nat.reduceLeDiff, Int.reduceToNat, DD, h0, h1, h5, d1, d2, d3, d4, d5, d6, d7, d8, d9, d10]
      · have d9 : ¬ ((A.getD k 0 : Nat) : Int) < ((B.getD k 0 : Nat) : Int) := by omega
        have d10 : ¬ ((B.getD k 0 : Nat) : Int) < ((A.getD k 0 : Nat) : Int) := by omega
        simp -implicitDefEqProofs only [go_sem, Nat.reduceAdd, Nat.reduceEqDiff, Nat.reduceLT, reduceIte, reduceCtorEq, Int.reduceLE, Int.reduceLT, Int.reduceEq, Int.reduceAdd, Int.reduceMul, Int.reduceSub, Nat.reduceMul, Nat.reduceSub, Nat.reducePow, Nat.reduceLeDiff, Int.reduceToNat, DD, h0, h1, h5, d1, d2, d3, d4, d5, d6, d7, d8, d9, d10]
        refine ⟨k, by omega, _, rfl, by omega, by simp [x_look, h0], by simp [x_look, h1], by simp [x_look], ?_⟩
        rw [List.drop_eq_getElem_cons d4, List.drop_eq_getElem_cons d5, hinv]
        congr 1
        simpa [List.getD_eq_getElem?_getD, d4, d5] using q
      · have d9 : ¬ ((A.getD k 0 : Nat) : Int) < ((B.getD k 0 : Nat) : Int) := by omega
        have d10 : ((B.getD k 0 : Nat) : Int) < ((A.getD k 0 : Nat) : Int) := by omega
        have d11 := cmpN_gt (nv_lt_drop lb d5 d4 hinv.symm q)
        simp -implicitDefEqProofs only [go_sem, Nat.reduceAdd, Nat.reduceEqDiff, Nat.reduceLT, reduceIte, reduceCtorEq, Int.reduceLE, Int.reduceLT, Int.reduceEq, Int.reduceAdd, Int.reduceMul, Int.reduceSub, Nat.reduceMul, Nat.reduceSub, Nat.reducePow, Nat.reduceLeDiff, Int.reduceToNat, DD, h0, h1, h5, d1, d2, d3, d4, d5, d6, d7, d8, d9, d10, d11]
  · have c1 : ¬ (A.length : Int) = B.length := by omega
    rcases Nat.lt_or_gt_of_ne hl with q | q
    · have c2 : (A.length : Int) < B.length := by omega
      have c3 := cmpN_lt (lim_lt (x := nv A) (y := nv B) (by rw [← f1, ← f2]; exact q))
      simp -implicitDefEqProofs only [go_sem, Nat.reduceAdd, Nat.reduceEqDiff, Nat.reduceLT, reduceIte, reduceCtorEq, Int.reduceLE, Int.reduceLT, Int.reduceEq, Int.reduceAdd, Int.reduceMul, Int.reduceSub, Nat.reduceMul, Nat.reduceSub, Nat.reducePow, Nat.reduceLeDiff, Int.reduceToNat, DD, c1, c2, c3]
    · have c2 : ¬ (A.length : Int) < B.length := by omega
      have c3 := cmpN_gt (lim_lt (x := nv B) (y := nv A) (by rw [← f1, ← f2]; exact q))
      simp -implicitDefEqProofs only [go_sem, Nat.reduceAdd, Nat.reduceEqDiff, Nat.reduceLT, reduceIte, reduceCtorEq, Int.reduceLE, Int.reduceLT, Int.reduceEq, Int.reduceAdd, Int.reduceMul, Int.reduceSub, Nat.reduceMul, Nat.reduceSub, Nat.reducePow, Nat.reduceLeDiff, Int.reduceToNat, DD, c1, c2, c3]

theorem rcmp_sat (a b : List Nat) (ha : Lm a) (hb : Lm b) (hla : a.length < 1099511627776) (hlb : b.length < 1099511627776) : Sat CT false 64 [U32 a, U32 b] (I64 (cmpN (nv a) (nv b))) := by
  refine sat_of annulusref1_Cmp.ok (by simp) ?_
  have DD := annulusref1_Cmp.dr
  simp only [drP, drPx, drPt, drR, drS, drT, bodyOf, Tryz.f64, Nat.reduceEqDiff, reduceIte, true_and, and_true] at DD
  simp -implicitDefEqProofs only [go_sem, Nat.reduceAdd, Nat.reduceEqDiff, Nat.reduceLT, reduceIte, reduceCtorEq, Int.reduceLE, Int.reduceLT, Int.reduceEq, Int.reduceAdd, Int.reduceMul, Int.reduceSub, Nat.reduceMul, Nat.reduceSub, Nat.reducePow, Nat.reduceLeDiff, Int.reduceToNat, Tryz.f64, DD]
  refine callK_of false annulusref1_Trim.call (rtrim_sat a (by omega)) rfl rfl (by simp [ownOK]) (by simp [U32, isD_u32]) ?_
  simp -implicitDefEqProofs only [go_sem, Nat.reduceAdd, Nat.reduceEqDiff, Nat.reduceLT, reduceIte, reduceCtorEq, Int.reduceLE, Int.reduceLT, Int.reduceEq, Int.reduceAdd, Int.reduceMul, Int.reduceSub, Nat.reduceMul, Nat.reduceSub, Nat.reducePow, Nat.reduceLeDiff, Int.reduceToNat, DD]
  refine callK_of false annulusref1_Trim.call (rtrim_sat b (by omega)) rfl rfl (by simp [ownOK]) (by simp [U32, isD_u32]) ?_
  have e1 := cutL_length a
  have e2 := cutL_length b
  have f1 := cutL_lim ha
  have f2 := cutL_lim hb
  have f3 := nv_cutL a
  have f4 := nv_cutL b
  have la := Lm_cutL ha
  have lb := Lm_cutL hb
  rw [← f3, ← f4]
  rw [← f3] at f1
  rw [← f4] at f2
  generalize cutL a = A at *
  generalize cutL b = B at *
  clear ha hb f3 f4
  by_cases hl : A.length = B.length
  · have c1 : (A.length : Int) = B.length := by omega
    have c2 : IntKind.i64.wrap ((B.length : Int) - 1) = (B.length : Int) - 1 := wrap_i64 (by omega) (by omega)
    simp -implicitDefEqProofs only [go_sem, Nat.reduceAdd, Nat.reduceEqDiff, Nat.reduceLT, reduceIte, reduceCtorEq, Int.reduceLE, Int.reduceLT, Int.reduceEq, Int.reduceAdd, Int.reduceMul, Int.reduceSub, Nat.reduceMul, Nat.reduceSub, Nat.reducePow, Nat.reduceLeDiff, Int.reduceToNat, DD, c1, c2]
    refine loop_of aW0_mono (fun m σ => ∃ sl, σ = ⟨sl, []⟩ ∧ m ≤ A.length ∧ look sl 5 = .sl A.length (u32s A) ∧ look sl 6 = .sl B.length (u32s B) ∧ look sl 7 = I64 ((m : Int) - 1) ∧ A.drop m = B.drop m) ?_ (n := A.length)
      ⟨_, rfl, by omega, by simp [x_look, hl], by simp [x_look, hl], by simp [x_look, hl], by rw [List.drop_of_length_le (by omega), List.drop_of_length_le (by omega)]⟩
    rintro m _ ⟨sl, rfl, hm, h0, h1, h5, hinv⟩
    cases m with
    | zero =>
      have d1 : ¬ ((0 : Int) ≤ ((0 : Nat) : Int) - 1) := by omega
      have d2 := cmpN_eq (show nv A = nv B by simp at hinv; rw [hinv])
      simp -implicitDefEqProofs only [go_sem, Nat.reduceAdd, Nat.reduceEqDiff, Nat.reduceLT, reduceIte, reduceCtorEq, Int.reduceLE, Int.reduceLT, Int.reduceEq, Int.reduceAdd, Int.reduceMul, Int.reduceSub, Nat.reduceMul, Nat.reduceSub, Nat.reducePow, Nat.reduceLeDiff, Int.reduceToNat, DD, h0, h1, h5, d1, d2]
    | succ k =>
      have d0 : ((k + 1 : Nat) : Int) - 1 = (k : Int) := by omega
      have d1 : (0 : Int) ≤ (k : Int) := by omega
      have d2 : (k : Int) < (A.length : Int) := by omega
      have d3 : (k : Int) < (B.length : Int) := by omega
      have d4 : k < A.length := by omega
      have d5 : k < B.length := by omega
      have d6 := getD_u32s d4
      have d7 := getD_u32s d5
      have d8 : IntKind.i64.wrap ((k : Int) - 1) = (k : Int) - 1 := wrap_i64 (by omega) (by omega)
      rw [d0] at h5
      rcases Nat.lt_trichotomy (A.getD k 0) (B.getD k 0) with q | q | q
      · have d9 : ((A.getD k 0 : Nat) : Int) < ((B.getD k 0 : Nat) : Int) := by omega
        have d10 := cmpN_lt (nv_lt_drop la d4 d5 hinv q)
        simp -implicitDefEqProofs only [go_sem, Nat.reduceAdd, Nat.reduceEqDiff, Nat.reduceLT, reduceIte, reduceCtorEq, Int.reduceLE, Int.reduceLT, Int.reduceEq, Int.reduceAdd, Int.reduceMul, Int.reduceSub, Nat.reduceMul, Nat.reduceSub, Nat.reducePow, Nat.reduceLeDiff, Int.reduceToNat, DD, h0, h1, h5, d1, d2, d3, d4, d5, d6, d7, d8, d9, d10]
      · have d9 : ¬ ((A.getD k 0 : Nat) : Int) < ((B.getD k 0 : Nat) : Int) := by omega
        have d10 : ¬ ((B.getD k 0 : Nat) : Int) < ((A.getD k 0 : Nat) : Int) := by omega
        simp -implicitDefEqProofs only [go_sem, Nat.reduceAdd, Nat.reduceEqDiff, Nat.reduceLT, reduceIte, reduceCtorEq, Int.reduceLE, Int.reduceLT, Int.reduceEq, Int.reduceAdd, Int.reduceMul, Int.reduceSub, Nat.reduceMul, Nat.reduceSub, Nat.reducePow, Nat.reduceLeDiff, Int.reduceToNat, DD, h0, h1, h5, d1, d2, d3, d4, d5, d6, d7, d8, d9, d10]
        refine ⟨k, by omega, _, rfl, by omega, by simp [x_look, h0], by simp [x_look, h1], by simp [x_look], ?_⟩
        rw [List.drop_eq_getElem_cons d4, List.drop_eq_getElem_cons d5, hinv]
        congr 1
        simpa [List.getD_eq_getElem?_getD, d4, d5] using q
      · have d9 : ¬ ((A.getD k 0 : Nat) : Int) < ((B.getD k 0 : Nat) : Int) := by omega
        have d10 : ((B.getD k 0 : Nat) : Int) < ((A.getD k 0 : Nat) : Int) := by omega
        have d11 := cmpN_gt (nv_lt_drop lb d5 d4 hinv.symm q)
        simp -implicitDefEqProofs only [go_sem, Nat.reduceAdd, Nat.reduceEqDiff, Nat.reduceLT, reduceIte, reduceCtorEq, Int.reduceLE, Int.reduceLT, Int.reduceEq, Int.reduceAdd, Int.reduceMul, Int.reduceSub, Nat.reduceMul, Nat.reduceSub, Nat.reducePow, Nat.reduceLeDiff, Int.reduceToNat, DD, h0, h1, h5, d1, d2, d3, d4, d5, d6, d7, d8, d9, d10, d11]
  · have c1 : ¬ (A.length : Int) = B.length := by omega
    rcases Nat.lt_or_gt_of_ne hl with q | q
    · have c2 : (A.length : Int) < B.length := by omega
      have c3 := cmpN_lt (lim_lt (x := nv A) (y := nv B) (by rw [← f1, ← f2]; exact q))
      simp -implicitDefEqProofs only [go_sem, Nat.reduceAdd, Nat.reduceEqDiff, Nat.reduceLT, reduceIte, reduceCtorEq, Int.reduceLE, Int.reduceLT, Int.reduceEq, Int.reduceAdd, Int.reduceMul, Int.reduceSub, Nat.reduceMul, Nat.reduceSub, Nat.reducePow, Nat.reduceLeDiff, Int.reduceToNat, DD, c1, c2, c3]
    · have c2 : ¬ (A.length : Int) < B.length := by omega
      have c3 := cmpN_gt (lim_lt (x := nv B) (y := nv A) (by rw [← f1, ← f2]; exact q))
      simp -implicitDefEqProofs only [go_sem, Nat.reduceAdd, Nat.reduceEqDiff, Nat.reduceLT, reduceIte, reduceCtorEq, Int.reduceLE, Int.reduceLT, Int.reduceEq, Int.reduceAdd, Int.reduceMul, Int.reduceSub, Nat.reduceMul, Nat.reduceSub, Nat.reducePow, Nat.reduceLeDiff, Int.reduceToNat, DD, c1, c2, c3]
end Go.Ab

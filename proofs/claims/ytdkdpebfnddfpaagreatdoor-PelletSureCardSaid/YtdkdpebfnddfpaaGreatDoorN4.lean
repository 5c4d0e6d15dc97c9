/- Contracts of this seat's functions (of each call: what it answers), walked over the abstract machine, and the laws of numbers that they want. Conditions: those that each theorem states. -/
import Derived.Test.YtdkdpebfnddfpaaGreatDoorN3
set_option linter.unusedVariables false
set_option maxRecDepth 20000
set_option linter.unusedSimpArgs false
namespace Go.Ab
open Go.Proofs

theorem radd_sat (a b : List Nat) (ha : Lm a) (hb : Lm b) (hla : a.length < 1099511627776) (hlb : b.length < 1099511627776) : Sat CT false 66 [U32 a, U32 b] (U32 (lim (nv a + nv b))) := by
  refine sat_of annulusref1_Add.ok (by simp) ?_
  have DD := annulusref1_Add.dr
  simp only [drP, drPx, drPt, drR, drS, drT, bodyOf, Tryz.f66, Nat.reduceEqDiff, reduceIte, true_and, and_true] at DD
  obtain ⟨n, hn⟩ : ∃ n, max a.length b.length = n := ⟨_, rfl⟩
  have c0 : max (a.length : Int) (b.length : Int) = (n : Int) := by omega
  have c1 : IntKind.i64.wrap ((n : Int) + 1) = ((n + 1 : Nat) : Int) := by rw [wrap_i64 (by omega) (by omega)]; omega
  have c2 : (0 : Int) ≤ ((n + 1 : Nat) : Int) := by omega
  simp -implicitDefEqProofs only [go_sem, Nat.reduceAdd, Nat.reduceEqDiff, Nat.reduceLT, reduceIte, reduceCtorEq, Int.reduceLE, Int.reduceLT, Int.reduceEq, Int.reduceAdd, Int.reduceMul, Int.reduceSub, Nat.reduceMul, Nat.reduceSub, Nat.reducePow, Nat.reduceLeDiff, Int.reduceToNat, Tryz.f66, DD, c0, c1, c2]
  refine ⟨⟨by omega, by omega⟩, ?_⟩
  refine loop_of aW0_mono (fun m σ => ∃ sl out c j, σ = ⟨sl, [⟨u32s out, true, true⟩]⟩ ∧ m = n + 1 - j ∧ j ≤ n + 1 ∧ out.length = n + 1 ∧ Lm out ∧ c ≤ 1 ∧
      look sl 0 = .sl a.length (u32s a) ∧ look sl 1 = .sl b.length (u32s b) ∧ look sl 6 = .own 1 0 0 (n + 1) ∧ look sl 7 = W64 (c : Nat) ∧ look sl 5 = I64 ((n + 1 : Nat) : Int) ∧ look sl 8 = I64 (j : Nat) ∧
      nv (out.take j) + 4294967296 ^ j * c = nv (a.take j) + nv (b.take j)) ?_ (n := n + 1)
    ⟨_, List.replicate (n + 1) 0, 0, 0, rfl, rfl, by omega, by simp, Lm_rep _, by omega, by simp [x_look], by simp [x_look], by simp [x_look], by simp [x_look], by simp [x_look], by simp [x_look], by simp [nv]⟩
  rintro m _ ⟨sl, out, c, j, rfl, rfl, hj, hlen, hLm, hc, h0, h1, h5, h6, h16, h17, hinv⟩
  by_cases hlt : j < n + 1
  · have d1 : (j : Int) < ((n + 1 : Nat) : Int) := by omega
    simp -implicitDefEqProofs only [go_sem, Nat.reduceAdd, Nat.reduceEqDiff, Nat.reduceLT, reduceIte, reduceCtorEq, Int.reduceLE, Int.reduceLT, Int.reduceEq, Int.reduceAdd, Int.reduceMul, Int.reduceSub, Nat.reduceMul, Nat.reduceSub, Nat.reducePow, Nat.reduceLeDiff, Int.reduceToNat, DD, h0, h1, h5, h6, h16, h17, d1]
    refine callK_of false annulusref1_at.call (rat_nat a ha j) rfl rfl (by simp [ownOK]) (by simp [U32, isD_u32, IsD.v]) ?_
    simp -implicitDefEqProofs only [go_sem, Nat.reduceAdd, Nat.reduceEqDiff, Nat.reduceLT, reduceIte, reduceCtorEq, Int.reduceLE, Int.reduceLT, Int.reduceEq, Int.reduceAdd, Int.reduceMul, Int.reduceSub, Nat.reduceMul, Nat.reduceSub, Nat.reducePow, Nat.reduceLeDiff, Int.reduceToNat, DD, h0, h1, h5, h6, h16, h17, d1]
    refine callK_of false annulusref1_at.call (rat_nat b hb j) rfl rfl (by simp [ownOK]) (by simp [U32, isD_u32, IsD.v]) ?_
    have hX := Lm_getD ha j
    have hY := Lm_getD hb j
    generalize hXe : a.getD j 0 = X at hX ⊢
    generalize hYe : b.getD j 0 = Y at hY ⊢
    have w1 : IntKind.u64.wrap ((c : Int) + (X : Int)) = ((c + X : Nat) : Int) := by rw [wrap_u64 (by omega) (by omega)]; omega
    have w2 : IntKind.u64.wrap (((c + X : Nat) : Int) + (Y : Int)) = ((c + X + Y : Nat) : Int) := by rw [wrap_u64 (by omega) (by omega)]; omega
    have w3 := wrap32n (c + X + Y)
    have w4 := fdiv32 (c + X + Y)
    have w5 : IntKind.i64.wrap ((j : Int) + 1) = ((j + 1 : Nat) : Int) := by rw [wrap_i64 (by omega) (by omega)]; omega
    have d2 : (0 : Int) ≤ (j : Int) := by omega
    have d3 : j < out.length := by omega
    have d4 : j + 1 ≤ out.length := by omega
    have d5 := spl_u32s (l := out) (i := j) (x := (((c + X + Y) % 4294967296 : Nat) : Int)) d3 (by omega)
    have d6 : leafA (.v (.int .u32 (((c + X + Y) % 4294967296 : Nat) : Int))) = true := rfl
    simp -implicitDefEqProofs only [go_sem, Nat.reduceAdd, Nat.reduceEqDiff, Nat.reduceLT, reduceIte, reduceCtorEq, Int.reduceLE, Int.reduceLT, Int.reduceEq, Int.reduceAdd, Int.reduceMul, Int.reduceSub, Nat.reduceMul, Nat.reduceSub, Nat.reducePow, Nat.reduceLeDiff, Int.reduceToNat, DD, h0, h1, h5, h6, h16, h17, d1, d2, d3, d4, d5, d6, w1, w2, w3, w4, w5, List.all_cons, List.all_nil, Bool.and_true, Bool.and_self, Int.toNat_natCast]
    refine ⟨n + 1 - (j + 1), by omega, _, out.set j ((c + X + Y) % 4294967296), (c + X + Y) / 4294967296, j + 1, rfl, rfl, by omega, by simp [hlen], Lm_set hLm (by omega), by omega,
      by simp [x_look, h0], by simp [x_look, h1], by simp [x_look, h5], by simp [x_look], by simp [x_look, h16], by simp [x_look], ?_⟩
    rw [nv_set_zero d3, nv_take_succ, nv_take_succ, hXe, hYe]
    exact add_step j hinv rfl
  · have d1 : ¬ ((j : Int) < ((n + 1 : Nat) : Int)) := by omega
    have hje : j = n + 1 := by omega
    subst hje
    simp -implicitDefEqProofs only [go_sem, Nat.reduceAdd, Nat.reduceEqDiff, Nat.reduceLT, reduceIte, reduceCtorEq, Int.reduceLE, Int.reduceLT, Int.reduceEq, Int.reduceAdd, Int.reduceMul, Int.reduceSub, Nat.reduceMul, Nat.reduceSub, Nat.reducePow, Nat.reduceLeDiff, Int.reduceToNat, DD, h0, h1, h5, h6, h16, h17, d1]
    refine callK_u32 annulusref1_Trim.call (rtrim_sat out (by omega)) hlen ?_
    have e1 := nv_lt_of ha (n := n) (by omega)
    have e2 := nv_lt_of hb (n := n) (by omega)
    rw [nv_take_all (by omega), nv_take_all (by omega), nv_take_all (by omega)] at hinv
    obtain ⟨_, e3⟩ := add_done hinv rfl e1 e2
    have e4 : cutL out = lim (nv a + nv b) := by rw [cutL_lim hLm, e3]
    simp -implicitDefEqProofs only [go_sem, Nat.reduceAdd, Nat.reduceEqDiff, Nat.reduceLT, reduceIte, reduceCtorEq, Int.reduceLE, Int.reduceLT, Int.reduceEq, Int.reduceAdd, Int.reduceMul, Int.reduceSub, Nat.reduceMul, Nat.reduceSub, Nat.reducePow, Nat.reduceLeDiff, Int.reduceToNat, DD, e4]

theorem sub_ok (a b : List Nat) (ha : Lm a) (hb : Lm b) (hla : a.length < 1099511627776) (hlb : b.length < 1099511627776) (hle : nv b ≤ nv a) : Sat CT false 107 [U32 a, U32 b] (.tup [U32 (lim (nv a - nv b)), Bo true]) := by
  refine sat_of nat_Sub.ok (by simp) ?_
  have DD := nat_Sub.dr
  simp only [drP, drPx, drPt, drR, drS, drT, bodyOf, Tryz.f107, Nat.reduceEqDiff, reduceIte, true_and, and_true] at DD
  simp -implicitDefEqProofs only [go_sem, Nat.reduceAdd, Nat.reduceEqDiff, Nat.reduceLT, reduceIte, reduceCtorEq, Int.reduceLE, Int.reduceLT, Int.reduceEq, Int.reduceAdd, Int.reduceMul, Int.reduceSub, Nat.reduceMul, Nat.reduceSub, Nat.reducePow, Nat.reduceLeDiff, Int.reduceToNat, Tryz.f107, DD]
  refine callK_of false nat_Cmp.call (cmp_sat a b ha hb hla hlb) rfl rfl (by simp [ownOK]) (by simp [U32, isD_u32, IsD.v]) ?_
  have c0 : ¬ (cmpN (nv a) (nv b) < 0) := by unfold cmpN; rw [if_neg (by omega)]; split <;> decide
  have c1 : (0 : Int) ≤ (a.length : Int) := by omega
  simp -implicitDefEqProofs only [go_sem, Nat.reduceAdd, Nat.reduceEqDiff, Nat.reduceLT, reduceIte, reduceCtorEq, Int.reduceLE, Int.reduceLT, Int.reduceEq, Int.reduceAdd, Int.reduceMul, Int.reduceSub, Nat.reduceMul, Nat.reduceSub, Nat.reducePow, Nat.reduceLeDiff, Int.reduceToNat, DD, c0, c1]
  refine ⟨by omega, ?_⟩
  refine loop_of aW0_mono (fun m σ => ∃ sl out c j, σ = ⟨sl, [⟨u32s out, true, true⟩]⟩ ∧ m = a.length - j ∧ j ≤ a.length ∧ out.length = a.length ∧ Lm out ∧ c ≤ 1 ∧
      look sl 0 = .sl a.length (u32s a) ∧ look sl 1 = .sl b.length (u32s b) ∧ look sl 6 = .own 1 0 0 a.length ∧ look sl 7 = W64 (c : Nat) ∧ look sl 18 = I64 (a.length : Nat) ∧ look sl 19 = I64 (j : Nat) ∧
      nv (out.take j) + nv (b.take j) = nv (a.take j) + 4294967296 ^ j * c) ?_ (n := a.length)
    ⟨_, List.replicate a.length 0, 0, 0, rfl, rfl, by omega, by simp, Lm_rep _, by omega, by simp [x_look], by simp [x_look], by simp [x_look], by simp [x_look], by simp [x_look], by simp [x_look], by simp [nv]⟩
  rintro m _ ⟨sl, out, c, j, rfl, rfl, hj, hlen, hLm, hc, h0, h1, h6, h7, h18, h19, hinv⟩
  by_cases hlt : j < a.length
  · have d1 : (j : Int) < (a.length : Int) := by omega
    simp -implicitDefEqProofs only [go_sem, Nat.reduceAdd, Nat.reduceEqDiff, Nat.reduceLT, reduceIte, reduceCtorEq, Int.reduceLE, Int.reduceLT, Int.reduceEq, Int.reduceAdd, Int.reduceMul, Int.reduceSub, Nat.reduceMul, Nat.reduceSub, Nat.reducePow, Nat.reduceLeDiff, Int.reduceToNat, DD, h0, h1, h6, h7, h18, h19, d1]
    refine callK_of false nat_at.call (at_nat a ha j) rfl rfl (by simp [ownOK]) (by simp [U32, isD_u32, IsD.v]) ?_
    simp -implicitDefEqProofs only [go_sem, Nat.reduceAdd, Nat.reduceEqDiff, Nat.reduceLT, reduceIte, reduceCtorEq, Int.reduceLE, Int.reduceLT, Int.reduceEq, Int.reduceAdd, Int.reduceMul, Int.reduceSub, Nat.reduceMul, Nat.reduceSub, Nat.reducePow, Nat.reduceLeDiff, Int.reduceToNat, DD, h0, h1, h6, h7, h18, h19, d1]
    refine callK_of false nat_at.call (at_nat b hb j) rfl rfl (by simp [ownOK]) (by simp [U32, isD_u32, IsD.v]) ?_
    have hX := Lm_getD ha j
    have hY := Lm_getD hb j
    generalize hXe : a.getD j 0 = X at hX ⊢
    generalize hYe : b.getD j 0 = Y at hY ⊢
    obtain ⟨V, D, c', w1, w2, hD, hc', w3, w4, hdd⟩ := sub_w hX hY hc
    have w5 := incI (j := j) (by omega)
    have d2 : (0 : Int) ≤ (j : Int) := by omega
    have d3 : j < out.length := by omega
    have d4 : j + 1 ≤ out.length := by omega
    have d5 := spl_u32s (l := out) (i := j) (x := (D : Int)) d3 (by omega)
    have d6 : leafA (.v (.int .u32 (D : Int))) = true := rfl
    simp -implicitDefEqProofs only [go_sem, Nat.reduceAdd, Nat.reduceEqDiff, Nat.reduceLT, reduceIte, reduceCtorEq, Int.reduceLE, Int.reduceLT, Int.reduceEq, Int.reduceAdd, Int.reduceMul, Int.reduceSub, Nat.reduceMul, Nat.reduceSub, Nat.reducePow, Nat.reduceLeDiff, Int.reduceToNat, DD, h0, h1, h6, h7, h18, h19, d1, d2, d3, d4, d5, d6, w1, w2, w3, w4, w5, List.all_cons, List.all_nil, Bool.and_true, Bool.and_self, Int.toNat_natCast]
    refine ⟨a.length - (j + 1), by omega, _, out.set j D, c', j + 1, rfl, rfl, by omega, by simp [hlen], Lm_set hLm (by omega), by omega,
      by simp [x_look, h0], by simp [x_look, h1], by simp [x_look, h6], by simp [x_look], by simp [x_look, h18, h19], by simp [x_look], ?_⟩
    rw [nv_set_zero d3, nv_take_succ, nv_take_succ, hXe, hYe]
    exact sub_step j hinv rfl hdd
  · have d1 : ¬ ((j : Int) < (a.length : Int)) := by omega
    have hje : j = a.length := by omega
    subst hje
    simp -implicitDefEqProofs only [go_sem, Nat.reduceAdd, Nat.reduceEqDiff, Nat.reduceLT, reduceIte, reduceCtorEq, Int.reduceLE, Int.reduceLT, Int.reduceEq, Int.reduceAdd, Int.reduceMul, Int.reduceSub, Nat.reduceMul, Nat.reduceSub, Nat.reducePow, Nat.reduceLeDiff, Int.reduceToNat, DD, h0, h1, h6, h7, h18, h19, d1]
    refine callK_u32 nat_cut.call (cut_sat out (by omega)) hlen ?_
    rw [nv_take_all (l := out) (by omega), nv_take_all (l := a) (by omega)] at hinv
    obtain ⟨_, e3⟩ := sub_done rfl hinv (nv_take_div hb _) (nv_lt ha) hle (nv_lt_of hLm (by omega))
    have e4 : cutL out = lim (nv a - nv b) := by rw [cutL_lim hLm, e3]
    simp -implicitDefEqProofs only [go_sem, Nat.reduceAdd, Nat.reduceEqDiff, Nat.reduceLT, reduceIte, reduceCtorEq, Int.reduceLE, Int.reduceLT, Int.reduceEq, Int.reduceAdd, Int.reduceMul, Int.reduceSub, Nat.reduceMul, Nat.reduceSub, Nat.reducePow, Nat.reduceLeDiff, Int.reduceToNat, DD, e4]

theorem sub_no (a b : List Nat) (ha : Lm a) (hb : Lm b) (hla : a.length < 1099511627776) (hlb : b.length < 1099511627776) (hlt : nv a < nv b) : Sat CT false 107 [U32 a, U32 b] (.tup [.sl 0 [], Bo false]) := by
  refine sat_of nat_Sub.ok (by simp) ?_
  have DD := nat_Sub.dr
  simp only [drP, drPx, drPt, drR, drS, drT, bodyOf, Tryz.f107, Nat.reduceEqDiff, reduceIte, true_and, and_true] at DD
  simp -implicitDefEqProofs only [go_sem, Nat.reduceAdd, Nat.reduceEqDiff, Nat.reduceLT, reduceIte, reduceCtorEq, Int.reduceLE, Int.reduceLT, Int.reduceEq, Int.reduceAdd, Int.reduceMul, Int.reduceSub, Nat.reduceMul, Nat.reduceSub, Nat.reducePow, Nat.reduceLeDiff, Int.reduceToNat, Tryz.f107, DD]
  refine callK_of false nat_Cmp.call (cmp_sat a b ha hb hla hlb) rfl rfl (by simp [ownOK]) (by simp [U32, isD_u32, IsD.v]) ?_
  have c0 : (-1 : Int) < 0 := by omega
  rw [cmpN_lt hlt]
  simp -implicitDefEqProofs only [go_sem, Nat.reduceAdd, Nat.reduceEqDiff, Nat.reduceLT, reduceIte, reduceCtorEq, Int.reduceLE, Int.reduceLT, Int.reduceEq, Int.reduceAdd, Int.reduceMul, Int.reduceSub, Nat.reduceMul, Nat.reduceSub, Nat.reducePow, Nat.reduceLeDiff, Int.reduceToNat, DD, c0]

theorem rsub_ok (a b : List Nat) (ha : Lm a) (hb : Lm b) (hla : a.length < 1099511627776) (hlb : b.length < 1099511627776) (hle : nv b ≤ nv a) : Sat CT false 84 [U32 a, U32 b] (.tup [U32 (lim (nv a - nv b)), Bo true]) := by
  refine sat_of annulusref1_Sub.ok (by simp) ?_
  have DD := annulusref1_Sub.dr
  simp only [drP, drPx, drPt, drR, drS, drT, bodyOf, Tryz.f84, Nat.reduceEqDiff, reduceIte, true_and, and_true] at DD
  simp -implicitDefEqProofs only [go_sem, Nat.reduceAdd, Nat.reduceEqDiff, Nat.reduceLT, reduceIte, reduceCtorEq, Int.reduceLE, Int.reduceLT, Int.reduceEq, Int.reduceAdd, Int.reduceMul, Int.reduceSub, Nat.reduceMul, Nat.reduceSub, Nat.reducePow, Nat.reduceLeDiff, Int.reduceToNat, Tryz.f84, DD]
  refine callK_of false annulusref1_Cmp.call (rcmp_sat a b ha hb hla hlb) rfl rfl (by simp [ownOK]) (by simp [U32, isD_u32, IsD.v]) ?_
  have c0 : ¬ (cmpN (nv a) (nv b) < 0) := by unfold cmpN; rw [if_neg (by omega)]; split <;> decide
  have c1 : (0 : Int) ≤ (a.length : Int) := by omega
  simp -implicitDefEqProofs only [go_sem, Nat.reduceAdd, Nat.reduceEqDiff, Nat.reduceLT, reduceIte, reduceCtorEq, Int.reduceLE, Int.reduceLT, Int.reduceEq, Int.reduceAdd, Int.reduceMul, Int.reduceSub, Nat.reduceMul, Nat.reduceSub, Nat.reducePow, Nat.reduceLeDiff, Int.reduceToNat, DD, c0, c1]
  refine ⟨by omega, ?_⟩
  refine loop_of aW0_mono (fun m σ => ∃ sl out c j, σ = ⟨sl, [⟨u32s out, true, true⟩]⟩ ∧ m = a.length - j ∧ j ≤ a.length ∧ out.length = a.length ∧ Lm out ∧ c ≤ 1 ∧
      look sl 0 = .sl a.length (u32s a) ∧ look sl 1 = .sl b.length (u32s b) ∧ look sl 6 = .own 1 0 0 a.length ∧ look sl 7 = W64 (c : Nat) ∧ look sl 8 = I64 (j : Nat) ∧ look sl 8 = I64 (j : Nat) ∧
      nv (out.take j) + nv (b.take j) = nv (a.take j) + 4294967296 ^ j * c) ?_ (n := a.length)
    ⟨_, List.replicate a.length 0, 0, 0, rfl, rfl, by omega, by simp, Lm_rep _, by omega, by simp [x_look], by simp [x_look], by simp [x_look], by simp [x_look], by simp [x_look], by simp [x_look], by simp [nv]⟩
  rintro m _ ⟨sl, out, c, j, rfl, rfl, hj, hlen, hLm, hc, h0, h1, h6, h7, h18, h19, hinv⟩
  by_cases hlt : j < a.length
  · have d1 : (j : Int) < (a.length : Int) := by omega
    simp -implicitDefEqProofs only [go_sem, Nat.reduceAdd, Nat.reduceEqDiff, Nat.reduceLT, reduceIte, reduceCtorEq, Int.reduceLE, Int.reduceLT, Int.reduceEq, Int.reduceAdd, Int.reduceMul, Int.reduceSub, Nat.reduceMul, Nat.reduceSub, Nat.reducePow, Nat.reduceLeDiff, Int.reduceToNat, DD, h0, h1, h6, h7, h18, h19, d1]
    refine callK_of false annulusref1_at.call (rat_nat a ha j) rfl rfl (by simp [ownOK]) (by simp [U32, isD_u32, IsD.v]) ?_
    simp -implicitDefEqProofs only [go_sem, Nat.reduceAdd, Nat.reduceEqDiff, Nat.reduceLT, reduceIte, reduceCtorEq, Int.reduceLE, Int.reduceLT, Int.reduceEq, Int.reduceAdd, Int.reduceMul, Int.reduceSub, Nat.reduceMul, Nat.reduceSub, Nat.reducePow, Nat.reduceLeDiff, Int.reduceToNat, DD, h0, h1, h6, h7, h18, h19, d1]
    refine callK_of false annulusref1_at.call (rat_nat b hb j) rfl rfl (by simp [ownOK]) (by simp [U32, isD_u32, IsD.v]) ?_
    have hX := Lm_getD ha j
    have hY := Lm_getD hb j
    generalize hXe : a.getD j 0 = X at hX ⊢
    generalize hYe : b.getD j 0 = Y at hY ⊢
    obtain ⟨V, D, c', w1, w2, hD, hc', w3, w4, hdd⟩ := sub_w hX hY hc
    have w5 := incI (j := j) (by omega)
    have d2 : (0 : Int) ≤ (j : Int) := by omega
    have d3 : j < out.length := by omega
    have d4 : j + 1 ≤ out.length := by omega
    have d5 := spl_u32s (l := out) (i := j) (x := (D : Int)) d3 (by omega)
    have d6 : leafA (.v (.int .u32 (D : Int))) = true := rfl
    simp -implicitDefEqProofs only [go_sem, Nat.reduceAdd, Nat.reduceEqDiff, Nat.reduceLT, reduceIte, reduceCtorEq, Int.reduceLE, Int.reduceLT, Int.reduceEq, Int.reduceAdd, Int.reduceMul, Int.reduceSub, Nat.reduceMul, Nat.reduceSub, Nat.reducePow, Nat.reduceLeDiff, Int.reduceToNat, DD, h0, h1, h6, h7, h18, h19, d1, d2, d3, d4, d5, d6, w1, w2, w3, w4, w5, List.all_cons, List.all_nil, Bool.and_true, Bool.and_self, Int.toNat_natCast]
    refine ⟨a.length - (j + 1), by omega, _, out.set j D, c', j + 1, rfl, rfl, by omega, by simp [hlen], Lm_set hLm (by omega), by omega,
      by simp [x_look, h0], by simp [x_look, h1], by simp [x_look, h6], by simp [x_look], by simp [x_look, h18, h19], by simp [x_look], ?_⟩
    rw [nv_set_zero d3, nv_take_succ, nv_take_succ, hXe, hYe]
    exact sub_step j hinv rfl hdd
  · have d1 : ¬ ((j : Int) < (a.length : Int)) := by omega
    have hje : j = a.length := by omega
    subst hje
    simp -implicitDefEqProofs only [go_sem, Nat.reduceAdd, Nat.reduceEqDiff, Nat.reduceLT, reduceIte, reduceCtorEq, Int.reduceLE, Int.reduceLT, Int.reduceEq, Int.reduceAdd, Int.reduceMul, Int.reduceSub, Nat.reduceMul, Nat.reduceSub, Nat.reducePow, Nat.reduceLeDiff, Int.reduceToNat, DD, h0, h1, h6, h7, h18, h19, d1]
    refine callK_u32 annulusref1_Trim.call (rtrim_sat out (by omega)) hlen ?_
    rw [nv_take_all (l := out) (by omega), nv_take_all (l := a) (by omega)] at hinv
    obtain ⟨_, e3⟩ := sub_done rfl hinv (nv_take_div hb _) (nv_lt ha) hle (nv_lt_of hLm (by omega))
    have e4 : cutL out = lim (nv a - nv b) := by rw [cutL_lim hLm, e3]
    simp -implicitDefEqProofs only [go_sem, Nat.reduceAdd, Nat.reduceEqDiff, Nat.reduceLT, reduceIte, reduceCtorEq, Int.reduceLE, Int.reduceLT, Int.reduceEq, Int.reduceAdd, Int.reduceMul, Int.reduceSub, Nat.reduceMul, Nat.reduceSub, Nat.reducePow, Nat.reduceLeDiff, Int.reduceToNat, DD, e4]

theorem rsub_no (a b : List Nat) (ha : Lm a) (hb : Lm b) (hla : a.length < 1099511627776) (hlb : b.length < 1099511627776) (hlt : nv a < nv b) : Sat CT false 84 [U32 a, U32 b] (.tup [.sl 0 [], Bo false]) := by
  refine sat_of annulusref1_Sub.ok (by simp) ?_
  have DD := annulusref1_Sub.dr
  simp only [drP, drPx, drPt, drR, drS, drT, bodyOf, Tryz.f84, Nat.reduceEqDiff, reduceIte, true_and, and_true] at DD
  simp -implicitDefEqProofs only [go_sem, Nat.reduceAdd, Nat.reduceEqDiff, Nat.reduceLT, reduceIte, reduceCtorEq, Int.reduceLE, Int.reduceLT, Int.reduceEq, Int.reduceAdd, Int.reduceMul, Int.reduceSub, Nat.reduceMul, Nat.reduceSub, Nat.reducePow, Nat.reduceLeDiff, Int.reduceToNat, Tryz.f84, DD]
  refine callK_of false annulusref1_Cmp.call (rcmp_sat a b ha hb hla hlb) rfl rfl (by simp [ownOK]) (by simp [U32, isD_u32, IsD.v]) ?_
  have c0 : (-1 : Int) < 0 := by omega
  rw [cmpN_lt hlt]
  simp -implicitDefEqProofs only [go_sem, Nat.reduceAdd, Nat.reduceEqDiff, Nat.reduceLT, reduceIte, reduceCtorEq, Int.reduceLE, Int.reduceLT, Int.reduceEq, Int.reduceAdd, Int.reduceMul, Int.reduceSub, Nat.reduceMul, Nat.reduceSub, Nat.reducePow, Nat.reduceLeDiff, Int.reduceToNat, DD, c0]
end Go.Ab

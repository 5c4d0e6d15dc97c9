/- Contracts of this seat's functions (of each call: what it answers), walked over the abstract machine, and the laws of numbers that they want. Conditions: those that each theorem states. -/
import Derived.Test.YtdkdpebfnddfpaaGreatDoorN8
set_option linter.unusedVariables false
set_option maxRecDepth 20000
set_option linter.unusedSimpArgs false
namespace Go.Ab
open Go.Proofs

theorem callK_u32b {f : FuncId} {m : List Nat} {o : AObj} {n : Nat} {r : AV} {K : AV → Heap → Prop} (hc : callable CT.P f = true) (h : Sat CT false f [U32 m] r) (hn : m.length = n) (hK : K r [o, ⟨u32s m, true, false⟩]) :
    callK CT false f [.own 1 1 0 n] [o, ⟨u32s m, true, true⟩] K := by
  subst hn
  exact callK_of (H' := [o, ⟨u32s m, true, false⟩]) false hc h rfl (by simp only [List.map_cons, List.map_nil, snap_own, hd, List.getD_cons_zero, List.getD_cons_succ, List.drop_zero, Nat.mul_one, take_u32s, List.take_length, snap0_u32s, U32]) (by simp [ownOK, hd]) (by simp [U32, isD_u32]) hK

theorem short_sat (a : List Nat) (d : Nat) (ha : Lm a) (hla : a.length < 1099511627776) (h0 : 0 < d) (hd : d < 4294967296) : Sat CT false 114 [U32 a, W32 (d : Nat)] (.tup [U32 (lim (nv a / d)), U32 (lim (nv a % d))]) := by
  refine sat_of nat_short.ok (by simp) ?_
  have DD := nat_short.dr
  simp only [drP, drPx, drPt, drR, drS, drT, bodyOf, Tryz.f114, Nat.reduceEqDiff, reduceIte, true_and, and_true] at DD
  have hdd := hd
  clear hd
  have c2 : IntKind.i64.wrap ((a.length : Int) - 1) = (a.length : Int) - 1 := wrap_i64 (by omega) (by omega)
  have c3 : (0 : Int) ≤ (a.length : Int) := by omega
  simp -implicitDefEqProofs only [go_sem, Nat.reduceAdd, Nat.reduceEqDiff, Nat.reduceLT, reduceIte, reduceCtorEq, Int.reduceLE, Int.reduceLT, Int.reduceEq, Int.reduceAdd, Int.reduceMul, Int.reduceSub, Nat.reduceMul, Nat.reduceSub, Nat.reducePow, Nat.reduceLeDiff, Int.reduceToNat, Tryz.f114, DD, c2, c3]
  refine ⟨by omega, ?_⟩
  refine loop_of aW0_mono (fun m σ => ∃ sl out R, σ = ⟨sl, [⟨u32s out, true, true⟩]⟩ ∧ m ≤ a.length ∧ out.length = a.length ∧ Lm out ∧ R < d ∧
      look sl 0 = .sl a.length (u32s a) ∧ look sl 1 = W32 (d : Nat) ∧ look sl 6 = .own 1 0 0 a.length ∧ look sl 7 = W64 (R : Nat) ∧ look sl 8 = I64 ((m : Int) - 1) ∧
      nv (out.drop m) = nv (a.drop m) / d ∧ R = nv (a.drop m) % d) ?_ (n := a.length)
    ⟨_, List.replicate a.length 0, 0, rfl, by omega, by simp, Lm_rep _, h0, by simp [x_look], by simp [x_look], by simp [x_look], by simp [x_look], by simp [x_look], by simp [nv], by simp [nv]⟩
  rintro m _ ⟨sl, out, R, rfl, hm, hlen, hLm, hR, i0, i1, i6, i7, i8, hinv, hR2⟩
  have wd : IntKind.u64.wrap (d : Int) = (d : Int) := wrap64n (by omega)
  cases m with
  | zero =>
    have d1 : ¬ ((0 : Int) ≤ ((0 : Nat) : Int) - 1) := by omega
    simp -implicitDefEqProofs only [go_sem, Nat.reduceAdd, Nat.reduceEqDiff, Nat.reduceLT, reduceIte, reduceCtorEq, Int.reduceLE, Int.reduceLT, Int.reduceEq, Int.reduceAdd, Int.reduceMul, Int.reduceSub, Nat.reduceMul, Nat.reduceSub, Nat.reducePow, Nat.reduceLeDiff, Int.reduceToNat, DD, i0, i1, i6, i7, i8, d1]
    rw [List.drop_zero, List.drop_zero] at hinv
    rw [List.drop_zero] at hR2
    have e4 : cutL out = lim (nv a / d) := by rw [cutL_lim hLm, hinv]
    have e5 : cutL [R] = lim (nv a % d) := by
      rw [cutL_lim (by intro x hx; simp at hx; omega), show nv [R] = R by simp [nv], hR2]
    have w1 : IntKind.u32.wrap (R : Int) = (R : Int) := by rw [wrap_u32]; omega
    refine callK_u32 nat_cut.call (cut_sat out (by omega)) hlen ?_
    simp -implicitDefEqProofs only [go_sem, Nat.reduceAdd, Nat.reduceEqDiff, Nat.reduceLT, reduceIte, reduceCtorEq, Int.reduceLE, Int.reduceLT, Int.reduceEq, Int.reduceAdd, Int.reduceMul, Int.reduceSub, Nat.reduceMul, Nat.reduceSub, Nat.reducePow, Nat.reduceLeDiff, Int.reduceToNat, DD, i0, i1, i6, i7, i8, w1, e4]
    refine callK_u32b (m := [R]) nat_cut.call (cut_sat [R] (by simp)) rfl ?_
    simp -implicitDefEqProofs only [go_sem, Nat.reduceAdd, Nat.reduceEqDiff, Nat.reduceLT, reduceIte, reduceCtorEq, Int.reduceLE, Int.reduceLT, Int.reduceEq, Int.reduceAdd, Int.reduceMul, Int.reduceSub, Nat.reduceMul, Nat.reduceSub, Nat.reducePow, Nat.reduceLeDiff, Int.reduceToNat, DD, e5]
  | succ k =>
    have d0 : ((k + 1 : Nat) : Int) - 1 = (k : Int) := by omega
    have d1 : (0 : Int) ≤ (k : Int) := by omega
    have d2 : (k : Int) < (a.length : Int) := by omega
    have d3 : k < a.length := by omega
    have d4 := getD_u32s d3
    have d5 : IntKind.i64.wrap ((k : Int) - 1) = (k : Int) - 1 := wrap_i64 (by omega) (by omega)
    rw [d0] at i8
    have hX := Lm_getD ha k
    have hst := short_step (Y := nv (a.drop (k + 1))) (a := a.getD k 0) h0
    rw [← nv_drop_getD d3, ← hR2, ← hinv] at hst
    have hvl := short_lt hR hX
    generalize a.getD k 0 = X at *
    have w0 : IntKind.u64.wrap (X : Int) = (X : Int) := wrap64n (by omega)
    have w1 : IntKind.u64.wrap ((R : Int) * 2 ^ 32) = ((4294967296 * R : Nat) : Int) := by
      rw [show (R : Int) * 2 ^ 32 = ((4294967296 * R : Nat) : Int) by omega]; exact wrap64n (by omega)
    have w2 := or64 (a := 4294967296 * R) (b := X) (by omega) (by omega)
    rw [Nat.or_comm, or_hi hX, Nat.add_comm] at w2
    have hvv : 4294967296 * R + X < 18446744073709551616 := by omega
    generalize hv : 4294967296 * R + X = v at *
    have w3 : (v : Int).tdiv (d : Int) = ((v / d : Nat) : Int) := by rw [Int.tdiv_eq_ediv_of_nonneg (by omega)]; rfl
    have w6 : (v : Int).tmod (d : Int) = ((v % d : Nat) : Int) := by rw [Int.tmod_eq_emod_of_nonneg (by omega)]; rfl
    have w7 : ¬ ((d : Int) = 0) := by omega
    have hmr := Nat.mod_lt v h0
    generalize v / d = lo at *
    generalize v % d = R' at *
    have w4 : IntKind.u64.wrap (lo : Int) = (lo : Int) := wrap64n (by omega)
    have w5 : IntKind.u32.wrap (lo : Int) = (lo : Int) := by rw [wrap_u32]; omega
    have e6 : k < out.length := by omega
    have e7 : k + 1 ≤ out.length := by omega
    have d7 := spl_u32s (l := out) (i := k) (x := (lo : Int)) e6 (by omega)
    have d6 : leafA (.v (.int .u32 (lo : Int))) = true := rfl
    simp -implicitDefEqProofs only [go_sem, Nat.reduceAdd, Nat.reduceEqDiff, Nat.reduceLT, reduceIte, reduceCtorEq, Int.reduceLE, Int.reduceLT, Int.reduceEq, Int.reduceAdd, Int.reduceMul, Int.reduceSub, Nat.reduceMul, Nat.reduceSub, Nat.reducePow, Nat.reduceLeDiff, Int.reduceToNat, DD, i0, i1, i6, i7, i8, d1, d2, d3, d4, d5, d6, d7, e6, e7, wd, w0, w1, w2, w3, w4, w5, w6, w7, List.all_cons, List.all_nil, Bool.and_true, Bool.and_self, Int.toNat_natCast]
    refine ⟨k, by omega, _, out.set k lo, R', rfl, by omega, by simp [hlen], Lm_set hLm (by omega), hmr, by simp [x_look, i0], by simp [x_look, i1], by simp [x_look, i6], by simp [x_look], by simp [x_look], ?_, ?_⟩
    · rw [nv_set_drop e6, hst.1]
    · rw [hst.2]

theorem bits_sat (a : List Nat) (ha : Lm a) (hla : a.length < 1099511627776) : Sat CT false 86 [U32 a] (I64 (bl (nv a) : Nat)) := by
  refine sat_of nat_Bits.ok (by simp) ?_
  have DD := nat_Bits.dr
  simp only [drP, drPx, drPt, drR, drS, drT, bodyOf, Tryz.f86, Nat.reduceEqDiff, reduceIte, true_and, and_true] at DD
  simp -implicitDefEqProofs only [go_sem, Nat.reduceAdd, Nat.reduceEqDiff, Nat.reduceLT, reduceIte, reduceCtorEq, Int.reduceLE, Int.reduceLT, Int.reduceEq, Int.reduceAdd, Int.reduceMul, Int.reduceSub, Nat.reduceMul, Nat.reduceSub, Nat.reducePow, Nat.reduceLeDiff, Int.reduceToNat, Tryz.f86, DD]
  refine callK_of false nat_cut.call (cut_sat a (by omega)) rfl rfl (by simp [ownOK]) (by simp [U32, isD_u32, IsD.v]) ?_
  have e1 := cutL_length a
  have f3 := nv_cutL a
  have ha := Lm_cutL ha
  have ht := fun k => cut_top (l := a) (k := k)
  rw [← f3]
  generalize cutL a = A at *
  by_cases hA : A.length = 0
  · have c1 : (A.length : Int) = 0 := by omega
    have c2 : bl (nv A) = 0 := by rw [nv_nil_of hA]; rfl
    simp -implicitDefEqProofs only [go_sem, Nat.reduceAdd, Nat.reduceEqDiff, Nat.reduceLT, reduceIte, reduceCtorEq, Int.reduceLE, Int.reduceLT, Int.reduceEq, Int.reduceAdd, Int.reduceMul, Int.reduceSub, Nat.reduceMul, Nat.reduceSub, Nat.reducePow, Nat.reduceLeDiff, Int.reduceToNat, DD, c1, c2]
  · obtain ⟨k, hk⟩ : ∃ k, A.length = k + 1 := ⟨A.length - 1, by omega⟩
    have c1 : ¬ (((k + 1 : Nat) : Int) = 0) := by omega
    have c2 := decI (j := k) (by omega)
    have c3 : (0 : Int) ≤ (k : Int) := by omega
    have c4 : (k : Int) < ((k + 1 : Nat) : Int) := by omega
    have c5 := getD_u32s (l := A) (i := k) (by omega)
    have c6 : k < k + 1 := by omega
    have c7 : IntKind.i64.wrap (32 * (k : Int)) = ((32 * k : Nat) : Int) := by rw [wrap_i64 (by omega) (by omega)]; omega
    have hx := Lm_getD ha k
    have hb : bl (A.getD k 0) ≤ 32 := bl_le_of (by omega)
    have c8 : IntKind.i64.wrap (((32 * k : Nat) : Int) + ((bl (A.getD k 0) : Nat) : Int)) = ((32 * k + bl (A.getD k 0) : Nat) : Int) := by rw [wrap_i64 (by omega) (by omega)]; omega
    simp -implicitDefEqProofs only [go_sem, Nat.reduceAdd, Nat.reduceEqDiff, Nat.reduceLT, reduceIte, reduceCtorEq, Int.reduceLE, Int.reduceLT, Int.reduceEq, Int.reduceAdd, Int.reduceMul, Int.reduceSub, Nat.reduceMul, Nat.reduceSub, Nat.reducePow, Nat.reduceLeDiff, Int.reduceToNat, DD, hk, c1, c2, c3, c4, c5, c6, c7]
    refine callK_of false math_bits_Len32.call (len32_sat hx) rfl rfl (by simp [ownOK]) (by simp [IsD.v]) ?_
    simp -implicitDefEqProofs only [go_sem, Nat.reduceAdd, Nat.reduceEqDiff, Nat.reduceLT, reduceIte, reduceCtorEq, Int.reduceLE, Int.reduceLT, Int.reduceEq, Int.reduceAdd, Int.reduceMul, Int.reduceSub, Nat.reduceMul, Nat.reduceSub, Nat.reducePow, Nat.reduceLeDiff, Int.reduceToNat, DD, c8, bl_nv ha hk (ht k hk)]

theorem rbits_sat (a : List Nat) (ha : Lm a) (hla : a.length < 1099511627776) : Sat CT false 61 [U32 a] (I64 (bl (nv a) : Nat)) := by
  refine sat_of annulusref1_Bits.ok (by simp) ?_
  have DD := annulusref1_Bits.dr
  simp only [drP, drPx, drPt, drR, drS, drT, bodyOf, Tryz.f61, Nat.reduceEqDiff, reduceIte, true_and, and_true] at DD
  simp -implicitDefEqProofs only [go_sem, Nat.reduceAdd, Nat.reduceEqDiff, Nat.reduceLT, reduceIte, reduceCtorEq, Int.reduceLE, Int.reduceLT, Int.reduceEq, Int.reduceAdd, Int.reduceMul, Int.reduceSub, Nat.reduceMul, Nat.reduceSub, Nat.reducePow, Nat.reduceLeDiff, Int.reduceToNat, Tryz.f61, DD]
  refine callK_of false annulusref1_Trim.call (rtrim_sat a (by omega)) rfl rfl (by simp [ownOK]) (by simp [U32, isD_u32, IsD.v]) ?_
  have e1 := cutL_length a
  have f3 := nv_cutL a
  have ha := Lm_cutL ha
  have ht := fun k => cut_top (l := a) (k := k)
  rw [← f3]
  generalize cutL a = A at *
  by_cases hA : A.length = 0
  · have c1 : (A.length : Int) = 0 := by omega
    have c2 : bl (nv A) = 0 := by rw [nv_nil_of hA]; rfl
    simp -implicitDefEqProofs only [go_sem, Nat.reduceAdd, Nat.reduceEqDiff, Nat.reduceLT, reduceIte, reduceCtorEq, Int.reduceLE, Int.reduceLT, Int.reduceEq, Int.reduceAdd, Int.reduceMul, Int.reduceSub, Nat.reduceMul, Nat.reduceSub, Nat.reducePow, Nat.reduceLeDiff, Int.reduceToNat, DD, c1, c2]
  · obtain ⟨k, hk⟩ : ∃ k, A.length = k + 1 := ⟨A.length - 1, by omega⟩
    have c1 : ¬ (((k + 1 : Nat) : Int) = 0) := by omega
    have c2 := decI (j := k) (by omega)
    have c3 : (0 : Int) ≤ (k : Int) := by omega
    have c4 : (k : Int) < ((k + 1 : Nat) : Int) := by omega
    have c5 := getD_u32s (l := A) (i := k) (by omega)
    have c6 : k < k + 1 := by omega
    have c7 : IntKind.i64.wrap (32 * (k : Int)) = ((32 * k : Nat) : Int) := by rw [wrap_i64 (by omega) (by omega)]; omega
    have hx := Lm_getD ha k
    have hb : bl (A.getD k 0) ≤ 32 := bl_le_of (by omega)
    have hbn := bl_nv ha hk (ht k hk)
    simp -implicitDefEqProofs only [go_sem, Nat.reduceAdd, Nat.reduceEqDiff, Nat.reduceLT, reduceIte, reduceCtorEq, Int.reduceLE, Int.reduceLT, Int.reduceEq, Int.reduceAdd, Int.reduceMul, Int.reduceSub, Nat.reduceMul, Nat.reduceSub, Nat.reducePow, Nat.reduceLeDiff, Int.reduceToNat, DD, hk, c1, c2, c3, c4, c5, c6, c7]
    refine loop_of aW0_mono (fun m σ => ∃ sl x n, σ = ⟨sl, []⟩ ∧ m = bl x ∧ x < 4294967296 ∧ n ≤ 32 * k + 32 ∧ look sl 4 = I64 (n : Nat) ∧ look sl 5 = W32 (x : Nat) ∧ n + bl x = bl (nv A)) ?_ (n := bl (A.getD k 0))
      ⟨_, A.getD k 0, 32 * k, rfl, rfl, hx, by omega, by simp [x_look], by simp [x_look], hbn.symm⟩
    rintro m _ ⟨sl, x, n, rfl, rfl, hx, hn, h4, h5, hinv⟩
    by_cases hz : x = 0
    · have d1 : (x : Int) = 0 := by omega
      subst hz
      have d2 : n = bl (nv A) := by rw [← hinv]; rfl
      simp -implicitDefEqProofs only [go_sem, Nat.reduceAdd, Nat.reduceEqDiff, Nat.reduceLT, reduceIte, reduceCtorEq, Int.reduceLE, Int.reduceLT, Int.reduceEq, Int.reduceAdd, Int.reduceMul, Int.reduceSub, Nat.reduceMul, Nat.reduceSub, Nat.reducePow, Nat.reduceLeDiff, Int.reduceToNat, DD, h4, h5, d1, d2]
    · have d1 : ¬ ((x : Int) = 0) := by omega
      have d2 := incI (j := n) (by omega)
      have d3 : (x : Int).fdiv (2 ^ 1) = ((x / 2 : Nat) : Int) := by rw [Int.fdiv_eq_ediv_of_nonneg _ (by omega)]; omega
      have d4 := bl_half hz
      simp -implicitDefEqProofs only [go_sem, Nat.reduceAdd, Nat.reduceEqDiff, Nat.reduceLT, reduceIte, reduceCtorEq, Int.reduceLE, Int.reduceLT, Int.reduceEq, Int.reduceAdd, Int.reduceMul, Int.reduceSub, Nat.reduceMul, Nat.reduceSub, Nat.reducePow, Nat.reduceLeDiff, Int.reduceToNat, DD, h4, h5, d1, d2, d3]
      exact ⟨bl (x / 2), by omega, _, x / 2, n + 1, rfl, rfl, by omega, by omega, by simp [x_look], by simp [x_look], by omega⟩

theorem rbit_sat (a : List Nat) (n : Nat) (ha : Lm a) (hla : a.length < 1099511627776) (hn : n < 4611686018427387904) : Sat CT false 102 [U32 a, I64 (n : Nat)] (Bo ((nv a).testBit n)) := by
  refine sat_of annulusref1_Bit.ok (by simp) ?_
  have DD := annulusref1_Bit.dr
  simp only [drP, drPx, drPt, drR, drS, drT, bodyOf, Tryz.f102, Nat.reduceEqDiff, reduceIte, true_and, and_true] at DD
  obtain ⟨q, r, hr, hqr, ht1, ht2⟩ : ∃ q r : Nat, r < 32 ∧ n = 32 * q + r ∧ IntKind.i64.wrap ((n : Int).tdiv 32) = (q : Int) ∧ (n : Int).tmod 32 = (r : Int) := by
    refine ⟨n / 32, n % 32, by omega, by omega, ?_, ?_⟩
    · rw [Int.tdiv_eq_ediv_of_nonneg (by omega), wrap_i64 (by omega) (by omega)]; omega
    · rw [Int.tmod_eq_emod_of_nonneg (by omega)]; omega
  have c1 : (0 : Int) ≤ (n : Int) := by omega
  have hb := testBit_nv ha q hr
  rw [← hqr] at hb
  by_cases hq : q < a.length
  · have c2 : (q : Int) < (a.length : Int) := by omega
    have c3 : (0 : Int) ≤ (q : Int) := by omega
    have c4 := getD_u32s hq
    have g1 : (0 : Int) ≤ (r : Int) := by omega
    have g2 : min r 32 = r := by omega
    have g3 : IntKind.u64.wrap (r : Int) = (r : Int) := wrap64n (by omega)
    have hX := Lm_getD ha q
    generalize a.getD q 0 = X at *
    have w1 : ((X : Int)).fdiv (2 ^ r) = ((X / 2 ^ r : Nat) : Int) := by
      rw [Int.fdiv_eq_ediv_of_nonneg _ (Int.pow_nonneg (by decide))]; simp
    have w2 := and32 (a := X / 2 ^ r) (b := 1) (Nat.lt_of_le_of_lt (Nat.div_le_self _ _) hX) (by omega)
    have w3 := testBit_dec X r
    rw [← hb] at w3
    have w2' : bits .and .u32 ((X / 2 ^ r : Nat) : Int) 1 = ((X / 2 ^ r &&& 1 : Nat) : Int) := w2
    generalize X / 2 ^ r = Z at *
    by_cases hz : ((Z &&& 1 : Nat) : Int) = 1
    · rw [decide_eq_true hz] at w3
      simp -implicitDefEqProofs only [go_sem, Nat.reduceAdd, Nat.reduceEqDiff, Nat.reduceLT, reduceIte, reduceCtorEq, Int.reduceLE, Int.reduceLT, Int.reduceEq, Int.reduceAdd, Int.reduceMul, Int.reduceSub, Nat.reduceMul, Nat.reduceSub, Nat.reducePow, Nat.reduceLeDiff, Int.reduceToNat, Tryz.f102, DD, ht1, ht2, c1, c2, c3, c4, hq, g1, g2, g3, w1, w2', hz, ← w3]
    · rw [decide_eq_false hz] at w3
      simp -implicitDefEqProofs only [go_sem, Nat.reduceAdd, Nat.reduceEqDiff, Nat.reduceLT, reduceIte, reduceCtorEq, Int.reduceLE, Int.reduceLT, Int.reduceEq, Int.reduceAdd, Int.reduceMul, Int.reduceSub, Nat.reduceMul, Nat.reduceSub, Nat.reducePow, Nat.reduceLeDiff, Int.reduceToNat, Tryz.f102, DD, ht1, ht2, c1, c2, c3, c4, hq, g1, g2, g3, w1, w2', hz, ← w3]
  · have c2 : ¬ (q : Int) < (a.length : Int) := by omega
    have c3 : a.getD q 0 = 0 := by simp [List.getD_eq_getElem?_getD, Nat.not_lt.mp hq]
    rw [c3, Nat.zero_testBit] at hb
    simp -implicitDefEqProofs only [go_sem, Nat.reduceAdd, Nat.reduceEqDiff, Nat.reduceLT, reduceIte, reduceCtorEq, Int.reduceLE, Int.reduceLT, Int.reduceEq, Int.reduceAdd, Int.reduceMul, Int.reduceSub, Nat.reduceMul, Nat.reduceSub, Nat.reducePow, Nat.reduceLeDiff, Int.reduceToNat, Tryz.f102, DD, ht1, ht2, c1, c2, hb]

theorem rlow_sat (a : List Nat) (ha : Lm a) (hla : a.length < 1099511627776) : Sat CT false 75 [U32 a] (I64 (tz (nv a) : Nat)) := by
  refine sat_of annulusref1_Low.ok (by simp) ?_
  have DD := annulusref1_Low.dr
  simp only [drP, drPx, drPt, drR, drS, drT, bodyOf, Tryz.f75, Nat.reduceEqDiff, reduceIte, true_and, and_true] at DD
  simp -implicitDefEqProofs only [go_sem, Nat.reduceAdd, Nat.reduceEqDiff, Nat.reduceLT, reduceIte, reduceCtorEq, Int.reduceLE, Int.reduceLT, Int.reduceEq, Int.reduceAdd, Int.reduceMul, Int.reduceSub, Nat.reduceMul, Nat.reduceSub, Nat.reducePow, Nat.reduceLeDiff, Int.reduceToNat, Tryz.f75, DD]
  refine callK_of false annulusref1_Trim.call (rtrim_sat a (by omega)) rfl rfl (by simp [ownOK]) (by simp [U32, isD_u32, IsD.v]) ?_
  have e1 := cutL_length a
  have f1 := cutL_lim ha
  have f3 := nv_cutL a
  have ha := Lm_cutL ha
  rw [← f3] at f1 ⊢
  generalize cutL a = A at *
  by_cases hA : A.length = 0
  · have c1 : (A.length : Int) = 0 := by omega
    have c2 : tz (nv A) = 0 := by rw [nv_nil_of hA, tz]; rfl
    simp -implicitDefEqProofs only [go_sem, Nat.reduceAdd, Nat.reduceEqDiff, Nat.reduceLT, reduceIte, reduceCtorEq, Int.reduceLE, Int.reduceLT, Int.reduceEq, Int.reduceAdd, Int.reduceMul, Int.reduceSub, Nat.reduceMul, Nat.reduceSub, Nat.reducePow, Nat.reduceLeDiff, Int.reduceToNat, DD, c1, c2]
  · have c1 : ¬ ((A.length : Int) = 0) := by omega
    have hne : nv A ≠ 0 := fun h => hA (by rw [f1, h, lim_zero]; rfl)
    obtain ⟨hb1, hb2⟩ := tz_bit hne
    have hlt := nv_lt ha
    rw [show (4294967296 : Nat) ^ A.length = 2 ^ (32 * A.length) by rw [Nat.pow_mul]] at hlt
    have ht := tz_lt hne hlt
    simp -implicitDefEqProofs only [go_sem, Nat.reduceAdd, Nat.reduceEqDiff, Nat.reduceLT, reduceIte, reduceCtorEq, Int.reduceLE, Int.reduceLT, Int.reduceEq, Int.reduceAdd, Int.reduceMul, Int.reduceSub, Nat.reduceMul, Nat.reduceSub, Nat.reducePow, Nat.reduceLeDiff, Int.reduceToNat, DD, c1]
    refine loop_of aW0_mono (fun m σ => ∃ sl n, σ = ⟨sl, []⟩ ∧ m = tz (nv A) - n ∧ n ≤ tz (nv A) ∧ look sl 3 = .sl A.length (u32s A) ∧ look sl 4 = I64 (n : Nat)) ?_ (n := tz (nv A))
      ⟨_, 0, rfl, rfl, by omega, by simp [x_look], by simp [x_look]⟩
    rintro m _ ⟨sl, n, rfl, rfl, hn, h3, h4⟩
    simp -implicitDefEqProofs only [go_sem, Nat.reduceAdd, Nat.reduceEqDiff, Nat.reduceLT, reduceIte, reduceCtorEq, Int.reduceLE, Int.reduceLT, Int.reduceEq, Int.reduceAdd, Int.reduceMul, Int.reduceSub, Nat.reduceMul, Nat.reduceSub, Nat.reducePow, Nat.reduceLeDiff, Int.reduceToNat, DD, h3, h4]
    refine callK_of false annulusref1_Bit.call (rbit_sat A n ha (by omega) (by omega)) rfl rfl (by simp [ownOK]) (by simp [U32, isD_u32, IsD.v]) ?_
    by_cases hz : n = tz (nv A)
    · subst hz
      simp -implicitDefEqProofs only [go_sem, Nat.reduceAdd, Nat.reduceEqDiff, Nat.reduceLT, reduceIte, reduceCtorEq, Int.reduceLE, Int.reduceLT, Int.reduceEq, Int.reduceAdd, Int.reduceMul, Int.reduceSub, Nat.reduceMul, Nat.reduceSub, Nat.reducePow, Nat.reduceLeDiff, Int.reduceToNat, DD, h3, h4, hb1, Bool.not_true, Bool.not_false, Bool.false_eq_true]
    · have hf := hb2 n (by omega)
      have d2 := incI (j := n) (by omega)
      simp -implicitDefEqProofs only [go_sem, Nat.reduceAdd, Nat.reduceEqDiff, Nat.reduceLT, reduceIte, reduceCtorEq, Int.reduceLE, Int.reduceLT, Int.reduceEq, Int.reduceAdd, Int.reduceMul, Int.reduceSub, Nat.reduceMul, Nat.reduceSub, Nat.reducePow, Nat.reduceLeDiff, Int.reduceToNat, DD, h3, h4, hf, d2, Bool.not_true, Bool.not_false, Bool.false_eq_true]
      exact ⟨tz (nv A) - (n + 1), by omega, _, n + 1, rfl, rfl, by omega, by simp [x_look, h3], by simp [x_look]⟩
end Go.Ab

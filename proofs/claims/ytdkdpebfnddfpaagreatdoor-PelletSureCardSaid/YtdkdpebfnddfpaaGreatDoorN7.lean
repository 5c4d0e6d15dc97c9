/- Contracts of this seat's functions (of each call: what it answers), walked over the abstract machine, and the laws of numbers that they want. Conditions: those that each theorem states. -/
import Derived.Test.YtdkdpebfnddfpaaGreatDoorN6
set_option linter.unusedVariables false
set_option maxRecDepth 20000
set_option linter.unusedSimpArgs false
namespace Go.Ab
open Go.Proofs

theorem cut_hsat (l : List Nat) (hl : l.length < 4611686018427387904) : HSat CT 89 [.own 1 0 0 l.length] [⟨u32s l, true, true⟩] (fun r H' => r = .own 1 0 0 (cutL l).length ∧ H' = [⟨u32s l, true, true⟩]) := by
  refine hsat_of nat_cut.ok nat_cut.call (by simp) ?_
  simp -implicitDefEqProofs only [go_sem, Nat.reduceAdd, Nat.reduceEqDiff, Nat.reduceLT, reduceIte, reduceCtorEq, Int.reduceLE, Int.reduceLT, Int.reduceEq, Int.reduceAdd, Int.reduceMul, Int.reduceSub, Nat.reduceMul, Nat.reduceSub, Nat.reducePow, Nat.reduceLeDiff, Int.reduceToNat, and_true, Tryz.f89]
  refine loop_of aW0_mono (fun n σ => ∃ sl, σ = ⟨sl, [⟨u32s l, true, true⟩]⟩ ∧ n ≤ l.length ∧ look sl 0 = .own 1 0 0 n ∧ cutL (l.take n) = cutL l) ?_ (n := l.length) ⟨_, rfl, Nat.le_refl _, by simp only [x_look, reduceIte, Nat.reduceEqDiff, List.take_length], by rw [List.take_length]⟩
  rintro n _ ⟨sl, rfl, hn, h0, hc⟩
  have hend : cutL (l.take n) = l.take n → n = (cutL l).length := fun e => by
    rw [← hc, e, List.length_take]; omega
  by_cases hn0 : n = 0
  · subst hn0
    have e1 := hend rfl
    simp -implicitDefEqProofs only [go_sem, Nat.reduceAdd, Nat.reduceEqDiff, Nat.reduceLT, reduceIte, reduceCtorEq, Int.reduceLE, Int.reduceLT, Int.reduceEq, Int.reduceAdd, Int.reduceMul, Int.reduceSub, Nat.reduceMul, Nat.reduceSub, Nat.reducePow, Nat.reduceLeDiff, Int.reduceToNat, and_true, h0, Int.natCast_zero, Int.lt_irrefl, ← e1]
  · obtain ⟨k, rfl⟩ : ∃ k, n = k + 1 := ⟨n - 1, by omega⟩
    have hk : k < l.length := by omega
    have c1 : (0 : Int) < ((k + 1 : Nat) : Int) := by omega
    have c2 := decI (j := k) (by omega)
    have c3 : (0 : Int) ≤ (k : Int) := by omega
    have c4 : (k : Int) < ((k + 1 : Nat) : Int) := by omega
    have c5 := getD_u32s hk
    by_cases hz : l.getD k 0 = 0
    · have c8 : ((l.getD k 0 : Nat) : Int) = 0 := by omega
      have c9 : (k : Int) ≤ ((k + 1 : Nat) : Int) := by omega
      simp -implicitDefEqProofs only [go_sem, Nat.reduceAdd, Nat.reduceEqDiff, Nat.reduceLT, reduceIte, reduceCtorEq, Int.reduceLE, Int.reduceLT, Int.reduceEq, Int.reduceAdd, Int.reduceMul, Int.reduceSub, Nat.reduceMul, Nat.reduceSub, Nat.reducePow, Nat.reduceLeDiff, Int.reduceToNat, and_true, h0, c1, c2, c3, c4, c5, c8, c9, hk]
      refine ⟨k, by omega, _, rfl, by omega, ?_, ?_⟩
      · simp only [x_look, reduceIte]
      · rw [← hc, take_succ_getD l hk, hz, cutL_zero]
    · have c8 : ¬ ((l.getD k 0 : Nat) : Int) = 0 := by omega
      have e1 := hend (by rw [take_succ_getD l hk, cutL_ne _ hz])
      have c9 : k < k + 1 := by omega
      simp -implicitDefEqProofs only [go_sem, Nat.reduceAdd, Nat.reduceEqDiff, Nat.reduceLT, reduceIte, reduceCtorEq, Int.reduceLE, Int.reduceLT, Int.reduceEq, Int.reduceAdd, Int.reduceMul, Int.reduceSub, Nat.reduceMul, Nat.reduceSub, Nat.reducePow, Nat.reduceLeDiff, Int.reduceToNat, and_true, h0, c1, c2, c3, c4, c5, c8, c9, hk, ← e1]

/-- The limbs of a number, at the begin of the only object. -/
def OwnLim (x : Nat) (r : AV) (H : Heap) : Prop := ∃ out, r = .own 1 0 0 (lim x).length ∧ H = [⟨u32s out, true, true⟩] ∧ Lm out ∧ out.take (lim x).length = lim x
theorem up_hsat (a : List Nat) (n : Nat) (ha : Lm a) (hla : a.length < 1099511627776) (hn : n ≤ 100000) (hne : nv a ≠ 0) : HSat CT 108 [U32 a, I64 (n : Nat)] [] (OwnLim (nv a * 2 ^ n)) := by
  refine hsat_of nat_Up.ok nat_Up.call (by simp) ?_
  have DD := nat_Up.dr
  simp only [drP, drPx, drPt, drR, drS, drT, bodyOf, Tryz.f108, Nat.reduceEqDiff, reduceIte, true_and, and_true] at DD
  obtain ⟨q, r, hr, hqr, ht1, ht2⟩ : ∃ q r : Nat, r < 32 ∧ n = 32 * q + r ∧ IntKind.i64.wrap ((n : Int).tdiv 32) = (q : Int) ∧ (n : Int).tmod 32 = (r : Int) := by
    refine ⟨n / 32, n % 32, by omega, by omega, ?_, ?_⟩
    · rw [Int.tdiv_eq_ediv_of_nonneg (by omega), wrap_i64 (by omega) (by omega)]; omega
    · rw [Int.tmod_eq_emod_of_nonneg (by omega)]; omega
  simp -implicitDefEqProofs only [go_sem, Nat.reduceAdd, Nat.reduceEqDiff, Nat.reduceLT, reduceIte, reduceCtorEq, Int.reduceLE, Int.reduceLT, Int.reduceEq, Int.reduceAdd, Int.reduceMul, Int.reduceSub, Nat.reduceMul, Nat.reduceSub, Nat.reducePow, Nat.reduceLeDiff, Int.reduceToNat, Tryz.f108, DD]
  refine callK_of false nat_cut.call (cut_sat a (by omega)) rfl rfl (by simp [ownOK]) (by simp [U32, isD_u32, IsD.v]) ?_
  have e1 := cutL_length a
  have f3 := nv_cutL a
  have ha := Lm_cutL ha
  rw [← f3]
  rw [← f3] at hne
  generalize cutL a = A at *
  by_cases hA : A.length = 0
  · exact absurd (nv_nil_of hA) hne
  · have c1 : ¬ ((A.length : Int) = 0) := by omega
    have c2 : max (n : Int) 0 = (n : Int) := by omega
    have c3 : IntKind.i64.wrap ((A.length : Int) + (q : Int)) = ((A.length + q : Nat) : Int) := by rw [wrap_i64 (by omega) (by omega)]; omega
    have c4 := incI (j := A.length + q) (by omega)
    have c5 : (0 : Int) ≤ ((A.length + q + 1 : Nat) : Int) := by omega
    have c6 : (0 : Int) ≤ (q : Int) := by omega
    have c7 : (q : Int) ≤ ((A.length + q + 1 : Nat) : Int) := by omega
    have c8 : A.length + q + 1 - q = A.length + 1 := by omega
    simp -implicitDefEqProofs only [go_sem, Nat.reduceAdd, Nat.reduceEqDiff, Nat.reduceLT, reduceIte, reduceCtorEq, Int.reduceLE, Int.reduceLT, Int.reduceEq, Int.reduceAdd, Int.reduceMul, Int.reduceSub, Nat.reduceMul, Nat.reduceSub, Nat.reducePow, Nat.reduceLeDiff, Int.reduceToNat, DD, c1, c2, c3, c4, c5, c6, c7, c8, ht1, ht2]
    refine ⟨⟨by omega, by omega⟩, ?_⟩
    refine loop_of aW0_mono (fun m σ => ∃ sl out i, σ = ⟨sl, [⟨u32s out, true, true⟩]⟩ ∧ m = A.length + 1 - i ∧ i ≤ A.length + 1 ∧ out.length = A.length + q + 1 ∧ Lm out ∧
      look sl 0 = .sl A.length (u32s A) ∧ look sl 5 = I64 (q : Nat) ∧ look sl 6 = I64 (r : Nat) ∧ look sl 7 = .own 1 0 0 (A.length + q + 1) ∧ look sl 29 = I64 ((A.length + 1 : Nat) : Int) ∧ look sl 30 = I64 (i : Nat) ∧
      nv (out.take (q + i)) + 4294967296 ^ (q + i) * cry A r i = 4294967296 ^ q * (2 ^ r * nv (A.take i))) ?_ (n := A.length + 1)
      ⟨_, List.replicate (A.length + q + 1) 0, 0, rfl, rfl, by omega, by simp, Lm_rep _, by simp [x_look], by simp [x_look], by simp [x_look], by simp [x_look], by simp [x_look], by simp [x_look], by rw [List.take_replicate, nv_rep]; simp [nv, cry, prv]⟩
    rintro m _ ⟨sl, out, i, rfl, rfl, hi, hlen, hLm, h0, h5, h6, h7, h29, h30, hinv⟩
    by_cases hlt : i < A.length + 1
    · have d1 : (i : Int) < ((A.length + 1 : Nat) : Int) := by omega
      have d2 : IntKind.i64.wrap ((q : Int) + (i : Int)) = ((q + i : Nat) : Int) := by rw [wrap_i64 (by omega) (by omega)]; omega
      have d3 : IntKind.i64.wrap ((i : Int) - 1) = (i : Int) - 1 := wrap_i64 (by omega) (by omega)
      simp -implicitDefEqProofs only [go_sem, Nat.reduceAdd, Nat.reduceEqDiff, Nat.reduceLT, reduceIte, reduceCtorEq, Int.reduceLE, Int.reduceLT, Int.reduceEq, Int.reduceAdd, Int.reduceMul, Int.reduceSub, Nat.reduceMul, Nat.reduceSub, Nat.reducePow, Nat.reduceLeDiff, Int.reduceToNat, DD, h0, h5, h6, h7, h29, h30, d1, d2, d3]
      refine callK_of false nat_at.call (at_nat A ha i) rfl rfl (by simp [ownOK]) (by simp [U32, isD_u32, IsD.v]) ?_
      have g1 : (0 : Int) ≤ (r : Int) := by omega
      have g2 : min r 64 = r := by omega
      have hX := Lm_getD ha i
      have hY := prv_lt ha i
      have sX := sh_mul_lt hX hr
      have sY := sh_mul_lt hY hr
      have hcy := cry_lt ha r i
      have hcd : prv A i * 2 ^ r / 4294967296 = cry A r i := rfl
      have hup := up_step (o := nv (out.take (q + i))) (q := q) ha hr hinv
      have hor := sh_or (X := A.getD i 0) hcy
      have hp := (pow_r_lt hr).1
      have w1 : IntKind.u64.wrap ((A.getD i 0 : Nat) * (2 : Int) ^ r) = ((A.getD i 0 * 2 ^ r : Nat) : Int) := by rw [show ((A.getD i 0 : Nat) : Int) * (2 : Int) ^ r = ((A.getD i 0 * 2 ^ r : Nat) : Int) by simp]; exact wrap64n (by omega)
      have w2 : IntKind.u64.wrap ((prv A i : Nat) * (2 : Int) ^ r) = ((prv A i * 2 ^ r : Nat) : Int) := by rw [show ((prv A i : Nat) : Int) * (2 : Int) ^ r = ((prv A i * 2 ^ r : Nat) : Int) by simp]; exact wrap64n (by omega)
      have w3 := fdiv32 (prv A i * 2 ^ r)
      rw [hcd] at w3
      have w4 := or64 (a := A.getD i 0 * 2 ^ r) (b := cry A r i) (by omega) (by omega)
      rw [hor] at w4
      have w5 := wrap32n (A.getD i 0 * 2 ^ r + cry A r i)
      have hlo : (A.getD i 0 * 2 ^ r + cry A r i) % 4294967296 < 4294967296 := Nat.mod_lt _ (by omega)
      generalize (A.getD i 0 * 2 ^ r + cry A r i) % 4294967296 = lo at *
      have w6 := incI (j := i) (by omega)
      have e3 : (0 : Int) ≤ ((q + i : Nat) : Int) := by omega
      have e4 : ((q + i : Nat) : Int) < ((A.length + q + 1 : Nat) : Int) := by omega
      have e5 : q + i < A.length + q + 1 := by omega
      have e6 : q + i < out.length := by omega
      have e7 : q + i + 1 ≤ out.length := by omega
      have d5 := spl_u32s (l := out) (i := q + i) (x := (lo : Int)) e6 (by omega)
      have d6 : leafA (.v (.int .u32 (lo : Int))) = true := rfl
      simp -implicitDefEqProofs only [go_sem, Nat.reduceAdd, Nat.reduceEqDiff, Nat.reduceLT, reduceIte, reduceCtorEq, Int.reduceLE, Int.reduceLT, Int.reduceEq, Int.reduceAdd, Int.reduceMul, Int.reduceSub, Nat.reduceMul, Nat.reduceSub, Nat.reducePow, Nat.reduceLeDiff, Int.reduceToNat, DD, h0, h5, h6, h7, h29, h30, d1, d2, d3, w1, g1, g2]
      refine callK_of false nat_at.call (at_prv A ha i) rfl rfl (by simp [ownOK]) (by simp [U32, isD_u32, IsD.v]) ?_
      simp -implicitDefEqProofs only [go_sem, Nat.reduceAdd, Nat.reduceEqDiff, Nat.reduceLT, reduceIte, reduceCtorEq, Int.reduceLE, Int.reduceLT, Int.reduceEq, Int.reduceAdd, Int.reduceMul, Int.reduceSub, Nat.reduceMul, Nat.reduceSub, Nat.reducePow, Nat.reduceLeDiff, Int.reduceToNat, DD, h0, h5, h6, h7, h29, h30, d1, d2, d3, w1, w2, w3, w4, w5, w6, g1, g2, e3, e4, e5, e6, e7, d5, d6, List.all_cons, List.all_nil, Bool.and_true, Bool.and_self, Int.toNat_natCast]
      refine ⟨A.length + 1 - (i + 1), by omega, _, out.set (q + i) lo, i + 1, rfl, rfl, by omega, by simp [hlen], Lm_set hLm (by omega), by simp [x_look, h0], by simp [x_look, h5], by simp [x_look, h6], by simp [x_look, h7], by simp [x_look, h29], by simp [x_look], ?_⟩
      rw [show q + (i + 1) = q + i + 1 by omega, nv_set_zero e6]
      exact hup
    · have d1 : ¬ ((i : Int) < ((A.length + 1 : Nat) : Int)) := by omega
      have hie : i = A.length + 1 := by omega
      subst hie
      simp -implicitDefEqProofs only [go_sem, Nat.reduceAdd, Nat.reduceEqDiff, Nat.reduceLT, reduceIte, reduceCtorEq, Int.reduceLE, Int.reduceLT, Int.reduceEq, Int.reduceAdd, Int.reduceMul, Int.reduceSub, Nat.reduceMul, Nat.reduceSub, Nat.reducePow, Nat.reduceLeDiff, Int.reduceToNat, DD, h0, h5, h6, h7, h29, h30, d1]
      have hz : cry A r (A.length + 1) = 0 := by simp [cry, prv_succ, List.getD_eq_getElem?_getD]
      rw [nv_take_all (l := A) (by omega), hz, nv_take_all (l := out) (by omega), up_done, ← hqr, Nat.mul_zero, Nat.add_zero] at hinv
      have e4 : cutL out = lim (nv A * 2 ^ n) := by rw [cutL_lim hLm, hinv]
      rw [← hlen]
      refine callK_own (cut_hsat out (by omega)) ?_
      rintro _ _ ⟨rfl, rfl⟩
      simp -implicitDefEqProofs only [go_sem, Nat.reduceAdd, Nat.reduceEqDiff, Nat.reduceLT, reduceIte, reduceCtorEq, Int.reduceLE, Int.reduceLT, Int.reduceEq, Int.reduceAdd, Int.reduceMul, Int.reduceSub, Nat.reduceMul, Nat.reduceSub, Nat.reducePow, Nat.reduceLeDiff, Int.reduceToNat, DD]
      exact ⟨out, by rw [e4], rfl, hLm, by rw [← e4]; exact cutL_take out⟩

theorem shl_hsat (a : List Nat) (n : Int) (ha : Lm a) (hla : a.length < 1099511627776) (hne : nv a ≠ 0) : HSat CT 90 [U32 a, I64 n] [] (OwnLim (nv a * 2 ^ shN n)) := by
  refine hsat_of nat_Shl.ok nat_Shl.call (by simp) ?_
  simp -implicitDefEqProofs only [go_sem, Nat.reduceAdd, Nat.reduceEqDiff, Nat.reduceLT, reduceIte, reduceCtorEq, Int.reduceLE, Int.reduceLT, Int.reduceEq, Int.reduceAdd, Int.reduceMul, Int.reduceSub, Nat.reduceMul, Nat.reduceSub, Nat.reducePow, Nat.reduceLeDiff, Int.reduceToNat, and_true, Tryz.f90]
  refine callK_of false nat_held.call (held_sat n) rfl rfl (by simp [ownOK]) (by simp [U32, isD_u32, IsD.v]) ?_
  simp -implicitDefEqProofs only [go_sem, Nat.reduceAdd, Nat.reduceEqDiff, Nat.reduceLT, reduceIte, reduceCtorEq, Int.reduceLE, Int.reduceLT, Int.reduceEq, Int.reduceAdd, Int.reduceMul, Int.reduceSub, Nat.reduceMul, Nat.reduceSub, Nat.reducePow, Nat.reduceLeDiff, Int.reduceToNat, and_true]
  refine callK_own (up_hsat a (shN n) ha hla (shN_le n) hne) ?_
  intro r H' q
  simp -implicitDefEqProofs only [go_sem, Nat.reduceAdd, Nat.reduceEqDiff, Nat.reduceLT, reduceIte, reduceCtorEq, Int.reduceLE, Int.reduceLT, Int.reduceEq, Int.reduceAdd, Int.reduceMul, Int.reduceSub, Nat.reduceMul, Nat.reduceSub, Nat.reducePow, Nat.reduceLeDiff, Int.reduceToNat, and_true]
  exact q

theorem down_sat (a : List Nat) (n : Nat) (ha : Lm a) (hla : a.length < 1099511627776) (hn : n ≤ 100000) : Sat CT false 106 [U32 a, I64 (n : Nat)] (U32 (lim (nv a / 2 ^ n))) := by
  refine sat_of nat_Downwards.ok (by simp) ?_
  have DD := nat_Downwards.dr
  simp only [drP, drPx, drPt, drR, drS, drT, bodyOf, Tryz.f106, Nat.reduceEqDiff, reduceIte, true_and, and_true] at DD
  obtain ⟨q, r, hr, hqr, ht1, ht2⟩ : ∃ q r : Nat, r < 32 ∧ n = 32 * q + r ∧ IntKind.i64.wrap ((n : Int).tdiv 32) = (q : Int) ∧ (n : Int).tmod 32 = (r : Int) := by
    refine ⟨n / 32, n % 32, by omega, by omega, ?_, ?_⟩
    · rw [Int.tdiv_eq_ediv_of_nonneg (by omega), wrap_i64 (by omega) (by omega)]; omega
    · rw [Int.tmod_eq_emod_of_nonneg (by omega)]; omega
  simp -implicitDefEqProofs only [go_sem, Nat.reduceAdd, Nat.reduceEqDiff, Nat.reduceLT, reduceIte, reduceCtorEq, Int.reduceLE, Int.reduceLT, Int.reduceEq, Int.reduceAdd, Int.reduceMul, Int.reduceSub, Nat.reduceMul, Nat.reduceSub, Nat.reducePow, Nat.reduceLeDiff, Int.reduceToNat, Tryz.f106, DD]
  refine callK_of false nat_cut.call (cut_sat a (by omega)) rfl rfl (by simp [ownOK]) (by simp [U32, isD_u32, IsD.v]) ?_
  have e1 := cutL_length a
  have f3 := nv_cutL a
  have ha := Lm_cutL ha
  rw [← f3]
  generalize cutL a = A at *
  have c2 : max (n : Int) 0 = (n : Int) := by omega
  have g1 : (0 : Int) ≤ (r : Int) := by omega
  have g2 : min r 64 = r := by omega
  have g3 : IntKind.u64.wrap (r : Int) = (r : Int) := wrap64n (by omega)
  by_cases hA : A.length ≤ q
  · have c1 : (A.length : Int) ≤ (q : Int) := by omega
    have hz : lim (nv A / 2 ^ n) = [] := lim_of_zero (by
      have := down_lt (L := 0) (r := r) ha (q := q) (by omega)
      rw [← hqr] at this
      exact Nat.lt_one_iff.mp this)
    simp -implicitDefEqProofs only [go_sem, Nat.reduceAdd, Nat.reduceEqDiff, Nat.reduceLT, reduceIte, reduceCtorEq, Int.reduceLE, Int.reduceLT, Int.reduceEq, Int.reduceAdd, Int.reduceMul, Int.reduceSub, Nat.reduceMul, Nat.reduceSub, Nat.reducePow, Nat.reduceLeDiff, Int.reduceToNat, DD, c1, c2, ht1, ht2, hz]
    rfl
  · have c1 : ¬ (A.length : Int) ≤ (q : Int) := by omega
    have c3 : IntKind.i64.wrap ((A.length : Int) - (q : Int)) = ((A.length - q : Nat) : Int) := by rw [wrap_i64 (by omega) (by omega)]; omega
    have c4 : (0 : Int) ≤ ((A.length - q : Nat) : Int) := by omega
    have c5 : (0 : Int) ≤ (q : Int) := by omega
    have c6 : (q : Int) ≤ (A.length : Int) := by omega
    have c7 : (u32s (A.drop q)).take (A.length - q) = u32s (A.drop q) := by rw [List.take_of_length_le]; simp
    have c8 : (A.drop q).take (A.length - q) = A.drop q := by rw [List.take_of_length_le]; simp
    simp -implicitDefEqProofs only [go_sem, Nat.reduceAdd, Nat.reduceEqDiff, Nat.reduceLT, reduceIte, reduceCtorEq, Int.reduceLE, Int.reduceLT, Int.reduceEq, Int.reduceAdd, Int.reduceMul, Int.reduceSub, Nat.reduceMul, Nat.reduceSub, Nat.reducePow, Nat.reduceLeDiff, Int.reduceToNat, DD, c1, c2, c3, c4, c5, c6, c7, c8, ht1, ht2]
    refine ⟨⟨by omega, by omega⟩, ?_⟩
    refine loop_of aW0_mono (fun m σ => ∃ sl out i, σ = ⟨sl, [⟨u32s out, true, true⟩]⟩ ∧ m = A.length - q - i ∧ i ≤ A.length - q ∧ out.length = A.length - q ∧ Lm out ∧
      look sl 0 = .sl A.length (u32s A) ∧ look sl 5 = I64 (q : Nat) ∧ look sl 6 = I64 (r : Nat) ∧ look sl 7 = .own 1 0 0 (A.length - q) ∧ look sl 27 = I64 ((A.length - q : Nat) : Int) ∧ look sl 28 = I64 (i : Nat) ∧
      nv (out.take i) = nv A / 2 ^ n % 4294967296 ^ i) ?_ (n := A.length - q)
      ⟨_, List.replicate (A.length - q) 0, 0, rfl, rfl, by omega, by simp, Lm_rep _, by simp [x_look], by simp [x_look], by simp [x_look], by simp [x_look], by simp [x_look], by simp [x_look], by simp [nv, Nat.mod_one]⟩
    rintro m _ ⟨sl, out, i, rfl, rfl, hi, hlen, hLm, h0, h5, h6, h7, h27, h28, hinv⟩
    by_cases hlt : i < A.length - q
    · have d1 : (i : Int) < ((A.length - q : Nat) : Int) := by omega
      have d2 : IntKind.i64.wrap ((q : Int) + (i : Int)) = ((q + i : Nat) : Int) := by rw [wrap_i64 (by omega) (by omega)]; omega
      have d3 := incI (j := q + i) (by omega)
      have w6 := incI (j := i) (by omega)
      have hdd : (A.drop q).length = A.length - q := by simp
      simp -implicitDefEqProofs only [go_sem, Nat.reduceAdd, Nat.reduceEqDiff, Nat.reduceLT, reduceIte, reduceCtorEq, Int.reduceLE, Int.reduceLT, Int.reduceEq, Int.reduceAdd, Int.reduceMul, Int.reduceSub, Nat.reduceMul, Nat.reduceSub, Nat.reducePow, Nat.reduceLeDiff, Int.reduceToNat, DD, h0, h5, h6, h7, h27, h28, d1, d2, d3, w6, ht1, ht2, hdd]
      refine callK_of false nat_at.call (at_nat A ha (q + i)) rfl rfl (by simp [ownOK]) (by simp [U32, isD_u32, IsD.v]) ?_
      simp -implicitDefEqProofs only [go_sem, Nat.reduceAdd, Nat.reduceEqDiff, Nat.reduceLT, reduceIte, reduceCtorEq, Int.reduceLE, Int.reduceLT, Int.reduceEq, Int.reduceAdd, Int.reduceMul, Int.reduceSub, Nat.reduceMul, Nat.reduceSub, Nat.reducePow, Nat.reduceLeDiff, Int.reduceToNat, DD, h0, h5, h6, h7, h27, h28, d1, d2, d3, w6, ht1, ht2, hdd]
      refine callK_of false nat_at.call (at_nat A ha (q + i + 1)) rfl rfl (by simp [ownOK]) (by simp [U32, isD_u32, IsD.v]) ?_
      skip
      have hX := Lm_getD ha (q + i)
      have hY := Lm_getD ha (q + i + 1)
      have hlimb := down_limb ha hr q i
      rw [← hqr] at hlimb
      have w1 : IntKind.u64.wrap ((A.getD (q + i + 1) 0 : Nat) * (2 : Int) ^ 32) = ((4294967296 * A.getD (q + i + 1) 0 : Nat) : Int) := by
        rw [show ((A.getD (q + i + 1) 0 : Nat) : Int) * (2 : Int) ^ 32 = ((4294967296 * A.getD (q + i + 1) 0 : Nat) : Int) by omega]; exact wrap64n (by omega)
      have w2 := or64 (a := A.getD (q + i) 0) (b := 4294967296 * A.getD (q + i + 1) 0) (by omega) (by omega)
      have w3 := or_hi (y := A.getD (q + i + 1) 0) hX
      rw [w3] at w2
      generalize A.getD (q + i) 0 + 4294967296 * A.getD (q + i + 1) 0 = v at *
      have w4 : ((v : Int)).fdiv (2 ^ r) = ((v / 2 ^ r : Nat) : Int) := by
        rw [Int.fdiv_eq_ediv_of_nonneg _ (Int.pow_nonneg (by decide))]; simp
      have w5 := wrap32n (v / 2 ^ r)
      have hlo : v / 2 ^ r % 4294967296 < 4294967296 := Nat.mod_lt _ (by omega)
      generalize v / 2 ^ r % 4294967296 = lo at *
      have e3 : (0 : Int) ≤ (i : Int) := by omega
      have e5 : i < A.length - q := by omega
      have e6 : i < out.length := by omega
      have e7 : i + 1 ≤ out.length := by omega
      have d5 := spl_u32s (l := out) (i := i) (x := (lo : Int)) e6 (by omega)
      have d6 : leafA (.v (.int .u32 (lo : Int))) = true := rfl
      simp -implicitDefEqProofs only [go_sem, Nat.reduceAdd, Nat.reduceEqDiff, Nat.reduceLT, reduceIte, reduceCtorEq, Int.reduceLE, Int.reduceLT, Int.reduceEq, Int.reduceAdd, Int.reduceMul, Int.reduceSub, Nat.reduceMul, Nat.reduceSub, Nat.reducePow, Nat.reduceLeDiff, Int.reduceToNat, DD, h0, h5, h6, h7, h27, h28, d1, d2, d3, hdd, w1, w2, w3, w4, w5, w6, g1, g2, g3, ht1, ht2, e3, e5, e6, e7, d5, d6, List.all_cons, List.all_nil, Bool.and_true, Bool.and_self, Int.toNat_natCast]
      refine ⟨A.length - q - (i + 1), by omega, _, out.set i lo, i + 1, rfl, rfl, by omega, by simp [hlen], Lm_set hLm (by omega), by simp [x_look, h0, h5, h6, h7, h27, h28], by simp [x_look, h0, h5, h6, h7, h27, h28], by simp [x_look, h0, h5, h6, h7, h27, h28], by simp [x_look, h0, h5, h6, h7, h27, h28], by simp [x_look, h0, h5, h6, h7, h27, h28], by simp [x_look, h0, h5, h6, h7, h27, h28], ?_⟩
      rw [nv_set_zero e6, hinv, mod_pow_succ, hlimb]
    · have d1 : ¬ ((i : Int) < ((A.length - q : Nat) : Int)) := by omega
      have hie : i = A.length - q := by omega
      subst hie
      have hdd : (A.drop q).length = A.length - q := by simp
      simp -implicitDefEqProofs only [go_sem, Nat.reduceAdd, Nat.reduceEqDiff, Nat.reduceLT, reduceIte, reduceCtorEq, Int.reduceLE, Int.reduceLT, Int.reduceEq, Int.reduceAdd, Int.reduceMul, Int.reduceSub, Nat.reduceMul, Nat.reduceSub, Nat.reducePow, Nat.reduceLeDiff, Int.reduceToNat, DD, h0, h5, h6, h7, h27, h28, d1, hdd]
      have hm := down_lt (L := A.length - q) (r := r) ha (q := q) (by omega)
      rw [← hqr] at hm
      rw [nv_take_all (l := out) (by omega), Nat.mod_eq_of_lt hm] at hinv
      have e4 : cutL out = lim (nv A / 2 ^ n) := by rw [cutL_lim hLm, hinv]
      refine callK_u32 nat_cut.call (cut_sat out (by omega)) hlen ?_
      simp -implicitDefEqProofs only [go_sem, Nat.reduceAdd, Nat.reduceEqDiff, Nat.reduceLT, reduceIte, reduceCtorEq, Int.reduceLE, Int.reduceLT, Int.reduceEq, Int.reduceAdd, Int.reduceMul, Int.reduceSub, Nat.reduceMul, Nat.reduceSub, Nat.reducePow, Nat.reduceLeDiff, Int.reduceToNat, DD, e4]

theorem rshr_sat (A : List Nat) (n0 : Int) (ha : Lm A) (hla : A.length < 1099511627776) : Sat CT false 76 [U32 A, I64 n0] (U32 (lim (nv A / 2 ^ shN n0))) := by
  refine sat_of annulusref1_Shr.ok (by simp) ?_
  have DD := annulusref1_Shr.dr
  simp only [drP, drPx, drPt, drR, drS, drT, bodyOf, Tryz.f76, Nat.reduceEqDiff, reduceIte, true_and, and_true] at DD
  obtain ⟨n, hn, hnN, hnI⟩ : ∃ n : Nat, n ≤ 100000 ∧ shN n0 = n ∧ min (max n0 0) 100000 = (n : Int) := ⟨shN n0, shN_le n0, rfl, by unfold shN; omega⟩
  rw [hnN]
  obtain ⟨q, r, hr, hqr, ht1, ht2⟩ : ∃ q r : Nat, r < 32 ∧ n = 32 * q + r ∧ IntKind.i64.wrap ((n : Int).tdiv 32) = (q : Int) ∧ (n : Int).tmod 32 = (r : Int) := by
    refine ⟨n / 32, n % 32, by omega, by omega, ?_, ?_⟩
    · rw [Int.tdiv_eq_ediv_of_nonneg (by omega), wrap_i64 (by omega) (by omega)]; omega
    · rw [Int.tmod_eq_emod_of_nonneg (by omega)]; omega
  have c2 : max 0 (min n0 100000) = ((n : Nat) : Int) := by omega
  have hdl := Lm_drop ha q
  have g1 : (0 : Int) ≤ (r : Int) := by omega
  have g2 : min r 64 = r := by omega
  have g3 : IntKind.u64.wrap (r : Int) = (r : Int) := wrap64n (by omega)
  by_cases hA : A.length ≤ q
  · have c1 : (A.length : Int) ≤ (q : Int) := by omega
    have hz : lim (nv A / 2 ^ n) = [] := lim_of_zero (by
      have := down_lt (L := 0) (r := r) ha (q := q) (by omega)
      rw [← hqr] at this
      exact Nat.lt_one_iff.mp this)
    simp -implicitDefEqProofs only [go_sem, Nat.reduceAdd, Nat.reduceEqDiff, Nat.reduceLT, reduceIte, reduceCtorEq, Int.reduceLE, Int.reduceLT, Int.reduceEq, Int.reduceAdd, Int.reduceMul, Int.reduceSub, Nat.reduceMul, Nat.reduceSub, Nat.reducePow, Nat.reduceLeDiff, Int.reduceToNat, Tryz.f76, DD, c1, c2, ht1, ht2, hz]
    rfl
  · have c1 : ¬ (A.length : Int) ≤ (q : Int) := by omega
    have c3 : 0 = 0 := rfl
    have c4 : (0 : Int) ≤ ((A.length - q : Nat) : Int) := by omega
    have c5 : (0 : Int) ≤ (q : Int) := by omega
    have c6 : (q : Int) ≤ (A.length : Int) := by omega
    have c7 : (u32s (A.drop q)).take (A.length - q) = u32s (A.drop q) := by rw [List.take_of_length_le]; simp
    have c8 : (A.drop q).take (A.length - q) = A.drop q := by rw [List.take_of_length_le]; simp
    simp -implicitDefEqProofs only [go_sem, Nat.reduceAdd, Nat.reduceEqDiff, Nat.reduceLT, reduceIte, reduceCtorEq, Int.reduceLE, Int.reduceLT, Int.reduceEq, Int.reduceAdd, Int.reduceMul, Int.reduceSub, Nat.reduceMul, Nat.reduceSub, Nat.reducePow, Nat.reduceLeDiff, Int.reduceToNat, Tryz.f76, DD, c1, c2, c3, c4, c5, c6, c7, c8, ht1, ht2]
    refine ⟨⟨by omega, by omega⟩, ?_⟩
    refine loop_of aW0_mono (fun m σ => ∃ sl out i, σ = ⟨sl, [⟨u32s out, true, true⟩]⟩ ∧ m = A.length - q - i ∧ i ≤ A.length - q ∧ out.length = A.length - q ∧ Lm out ∧
      look sl 5 = I64 (n : Nat) ∧ look sl 6 = .sl (A.length - q) (u32s (A.drop q)) ∧ look sl 7 = .own 1 0 0 (A.length - q) ∧ look sl 8 = I64 (i : Nat) ∧
      nv (out.take i) = nv A / 2 ^ n % 4294967296 ^ i) ?_ (n := A.length - q)
      ⟨_, List.replicate (A.length - q) 0, 0, rfl, rfl, by omega, by simp, Lm_rep _, by simp [x_look], by simp [x_look], by simp [x_look], by simp [x_look], by simp [nv, Nat.mod_one]⟩
    rintro m _ ⟨sl, out, i, rfl, rfl, hi, hlen, hLm, h5, h0, h7, h28, hinv⟩
    by_cases hlt : i < A.length - q
    · have d1 : (i : Int) < ((A.length - q : Nat) : Int) := by omega
      have d2 : IntKind.i64.wrap ((q : Int) + (i : Int)) = ((q + i : Nat) : Int) := by rw [wrap_i64 (by omega) (by omega)]; omega
      have d3 := incI (j := q + i) (by omega)
      have w6 := incI (j := i) (by omega)
      have hdd : (A.drop q).length = A.length - q := by simp
      simp -implicitDefEqProofs only [go_sem, Nat.reduceAdd, Nat.reduceEqDiff, Nat.reduceLT, reduceIte, reduceCtorEq, Int.reduceLE, Int.reduceLT, Int.reduceEq, Int.reduceAdd, Int.reduceMul, Int.reduceSub, Nat.reduceMul, Nat.reduceSub, Nat.reducePow, Nat.reduceLeDiff, Int.reduceToNat, DD, h5, h0, h7, h28, d1, d2, d3, w6, ht1, ht2, hdd]
      refine callK_of false annulusref1_at.call (rat_nat (A.drop q) hdl i) rfl (by simp only [List.map_cons, List.map_nil, snap_sl, snap_int, U32, List.length_drop]) (by simp [ownOK]) (by simp [U32, isD_u32, IsD.v]) ?_
      simp -implicitDefEqProofs only [go_sem, Nat.reduceAdd, Nat.reduceEqDiff, Nat.reduceLT, reduceIte, reduceCtorEq, Int.reduceLE, Int.reduceLT, Int.reduceEq, Int.reduceAdd, Int.reduceMul, Int.reduceSub, Nat.reduceMul, Nat.reduceSub, Nat.reducePow, Nat.reduceLeDiff, Int.reduceToNat, DD, h5, h0, h7, h28, d1, d2, d3, w6, ht1, ht2, hdd]
      refine callK_of false annulusref1_at.call (rat_nat (A.drop q) hdl (i + 1)) rfl (by simp only [List.map_cons, List.map_nil, snap_sl, snap_int, U32, List.length_drop]) (by simp [ownOK]) (by simp [U32, isD_u32, IsD.v]) ?_
      rw [getD_drop0, getD_drop0, ← Nat.add_assoc]
      have hX := Lm_getD ha (q + i)
      have hY := Lm_getD ha (q + i + 1)
      have hlimb := down_limb ha hr q i
      rw [← hqr] at hlimb
      have w1 : IntKind.u64.wrap ((A.getD (q + i + 1) 0 : Nat) * (2 : Int) ^ 32) = ((4294967296 * A.getD (q + i + 1) 0 : Nat) : Int) := by
        rw [show ((A.getD (q + i + 1) 0 : Nat) : Int) * (2 : Int) ^ 32 = ((4294967296 * A.getD (q + i + 1) 0 : Nat) : Int) by omega]; exact wrap64n (by omega)
      have w2 := or64 (a := A.getD (q + i) 0) (b := 4294967296 * A.getD (q + i + 1) 0) (by omega) (by omega)
      have w3 := or_hi (y := A.getD (q + i + 1) 0) hX
      rw [w3] at w2
      generalize A.getD (q + i) 0 + 4294967296 * A.getD (q + i + 1) 0 = v at *
      have w4 : ((v : Int)).fdiv (2 ^ r) = ((v / 2 ^ r : Nat) : Int) := by
        rw [Int.fdiv_eq_ediv_of_nonneg _ (Int.pow_nonneg (by decide))]; simp
      have w5 := wrap32n (v / 2 ^ r)
      have hlo : v / 2 ^ r % 4294967296 < 4294967296 := Nat.mod_lt _ (by omega)
      generalize v / 2 ^ r % 4294967296 = lo at *
      have e3 : (0 : Int) ≤ (i : Int) := by omega
      have e5 : i < A.length - q := by omega
      have e6 : i < out.length := by omega
      have e7 : i + 1 ≤ out.length := by omega
      have d5 := spl_u32s (l := out) (i := i) (x := (lo : Int)) e6 (by omega)
      have d6 : leafA (.v (.int .u32 (lo : Int))) = true := rfl
      simp -implicitDefEqProofs only [go_sem, Nat.reduceAdd, Nat.reduceEqDiff, Nat.reduceLT, reduceIte, reduceCtorEq, Int.reduceLE, Int.reduceLT, Int.reduceEq, Int.reduceAdd, Int.reduceMul, Int.reduceSub, Nat.reduceMul, Nat.reduceSub, Nat.reducePow, Nat.reduceLeDiff, Int.reduceToNat, DD, h5, h0, h7, h28, d1, d2, d3, hdd, w1, w2, w3, w4, w5, w6, g1, g2, g3, ht1, ht2, e3, e5, e6, e7, d5, d6, List.all_cons, List.all_nil, Bool.and_true, Bool.and_self, Int.toNat_natCast]
      refine ⟨A.length - q - (i + 1), by omega, _, out.set i lo, i + 1, rfl, rfl, by omega, by simp [hlen], Lm_set hLm (by omega), by simp [x_look, h5, h0, h7, h28], by simp [x_look, h5, h0, h7, h28], by simp [x_look, h5, h0, h7, h28], by simp [x_look, h5, h0, h7, h28], ?_⟩
      rw [nv_set_zero e6, hinv, mod_pow_succ, hlimb]
    · have d1 : ¬ ((i : Int) < ((A.length - q : Nat) : Int)) := by omega
      have hie : i = A.length - q := by omega
      subst hie
      have hdd : (A.drop q).length = A.length - q := by simp
      simp -implicitDefEqProofs only [go_sem, Nat.reduceAdd, Nat.reduceEqDiff, Nat.reduceLT, reduceIte, reduceCtorEq, Int.reduceLE, Int.reduceLT, Int.reduceEq, Int.reduceAdd, Int.reduceMul, Int.reduceSub, Nat.reduceMul, Nat.reduceSub, Nat.reducePow, Nat.reduceLeDiff, Int.reduceToNat, DD, h5, h0, h7, h28, d1, hdd]
      have hm := down_lt (L := A.length - q) (r := r) ha (q := q) (by omega)
      rw [← hqr] at hm
      rw [nv_take_all (l := out) (by omega), Nat.mod_eq_of_lt hm] at hinv
      have e4 : cutL out = lim (nv A / 2 ^ n) := by rw [cutL_lim hLm, hinv]
      refine callK_u32 annulusref1_Trim.call (rtrim_sat out (by omega)) hlen ?_
      simp -implicitDefEqProofs only [go_sem, Nat.reduceAdd, Nat.reduceEqDiff, Nat.reduceLT, reduceIte, reduceCtorEq, Int.reduceLE, Int.reduceLT, Int.reduceEq, Int.reduceAdd, Int.reduceMul, Int.reduceSub, Nat.reduceMul, Nat.reduceSub, Nat.reducePow, Nat.reduceLeDiff, Int.reduceToNat, DD, e4]

theorem shr_sat (a : List Nat) (n : Int) (ha : Lm a) (hla : a.length < 1099511627776) : Sat CT false 92 [U32 a, I64 n] (U32 (lim (nv a / 2 ^ shN n))) := by
  refine sat_of nat_Shr.ok (by simp) ?_
  simp -implicitDefEqProofs only [go_sem, Nat.reduceAdd, Nat.reduceEqDiff, Nat.reduceLT, reduceIte, reduceCtorEq, Int.reduceLE, Int.reduceLT, Int.reduceEq, Int.reduceAdd, Int.reduceMul, Int.reduceSub, Nat.reduceMul, Nat.reduceSub, Nat.reducePow, Nat.reduceLeDiff, Int.reduceToNat, and_true, Tryz.f92]
  refine callK_of false nat_held.call (held_sat n) rfl rfl (by simp [ownOK]) (by simp [U32, isD_u32, IsD.v]) ?_
  simp -implicitDefEqProofs only [go_sem, Nat.reduceAdd, Nat.reduceEqDiff, Nat.reduceLT, reduceIte, reduceCtorEq, Int.reduceLE, Int.reduceLT, Int.reduceEq, Int.reduceAdd, Int.reduceMul, Int.reduceSub, Nat.reduceMul, Nat.reduceSub, Nat.reducePow, Nat.reduceLeDiff, Int.reduceToNat, and_true]
  refine callK_of false nat_Downwards.call (down_sat a (shN n) ha hla (shN_le n)) rfl rfl (by simp [ownOK]) (by simp [U32, isD_u32, IsD.v]) ?_
  simp -implicitDefEqProofs only [go_sem, Nat.reduceAdd, Nat.reduceEqDiff, Nat.reduceLT, reduceIte, reduceCtorEq, Int.reduceLE, Int.reduceLT, Int.reduceEq, Int.reduceAdd, Int.reduceMul, Int.reduceSub, Nat.reduceMul, Nat.reduceSub, Nat.reducePow, Nat.reduceLeDiff, Int.reduceToNat, and_true]
end Go.Ab

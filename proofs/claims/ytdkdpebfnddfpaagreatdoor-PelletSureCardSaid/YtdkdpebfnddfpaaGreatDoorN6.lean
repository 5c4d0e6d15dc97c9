/- Contracts of this seat's functions (of each call: what it answers), walked over the abstract machine, and the laws of numbers that they want. Conditions: those that each theorem states. -/
import Derived.Test.YtdkdpebfnddfpaaGreatDoorN5
set_option linter.unusedVariables false
set_option maxRecDepth 20000
set_option linter.unusedSimpArgs false
namespace Go.Ab
open Go.Proofs

theorem at_prv (l : List Nat) (hm : Lm l) (i : Nat) : Sat CT false 117 [U32 l, I64 ((i : Int) - 1)] (W64 (prv l i : Nat)) := by
  unfold prv
  split
  · rename_i h; subst h; exact at_neg l _ (by omega)
  · have e : (i : Int) - 1 = ((i - 1 : Nat) : Int) := by omega
    rw [e]; exact at_nat l hm (i - 1)

theorem held_sat (n : Int) : Sat CT false 112 [I64 n] (I64 (shN n : Nat)) := by
  refine sat_of nat_held.ok (by simp) ?_
  have e : min (max n 0) 100000 = ((shN n : Nat) : Int) := by unfold shN; omega
  simp -implicitDefEqProofs only [go_sem, Nat.reduceAdd, Nat.reduceEqDiff, Nat.reduceLT, reduceIte, reduceCtorEq, Int.reduceLE, Int.reduceLT, Int.reduceEq, Int.reduceAdd, Int.reduceMul, Int.reduceSub, Nat.reduceMul, Nat.reduceSub, Nat.reducePow, Nat.reduceLeDiff, Int.reduceToNat, and_true, Tryz.f112, e, isD_v]

theorem nv_nil_of {l : List Nat} (h : l.length = 0) : nv l = 0 := by rw [List.length_eq_zero_iff] at h; rw [h]; rfl
theorem lim_of_zero {x : Nat} (h : x = 0) : lim x = [] := by rw [h]; exact lim_zero

theorem up_int (a : List Nat) (n0 : Int) (n : Nat) (hn0 : max n0 0 = (n : Int)) (ha : Lm a) (hla : a.length < 1099511627776) (hn : n ≤ 100000) : Sat CT false 108 [U32 a, I64 n0] (U32 (lim (nv a * 2 ^ n))) := by
  refine sat_of nat_Up.ok (by simp) ?_
  have DD := nat_Up.dr
  simp only [drP, drPx, drPt, drR, drS, drT, bodyOf, Tryz.f108, Nat.reduceEqDiff, reduceIte, true_and, and_true] at DD
  obtain ⟨q, r, hr, hqr, ht1, ht2⟩ : ∃ q r : Nat, r < 32 ∧ n = 32 * q + r ∧ IntKind.i64.wrap ((n : Int).tdiv 32) = (q : Int) ∧ (n : Int).tmod 32 = (r : Int) := by
    refine ⟨n / 32, n % 32, by omega, by omega, ?_, ?_⟩
    · rw [Int.tdiv_eq_ediv_of_nonneg (by omega), wrap_i64 (by omega) (by omega)]; omega
    · rw [Int.tmod_eq_emod_of_nonneg (by omega)]; omega
  simp -implicitDefEqProofs only [go_sem, Nat.reduceAdd, Nat.reduceEqDiff, Nat.reduceLT, reduceIte, reduceCtorEq, Int.reduceLE, Int.reduceLT, Int.reduceEq, Int.reduceAdd, Int.reduceMul, Int.reduceSub, Nat.reduceMul, Nat.reduceSub, Nat.reducePow, Nat.reduceLeDiff, Int.reduceToNat, Tryz.f108, DD]
  refine callK_of false nat_cut.call (cut_sat a (by omega)) rfl rfl (by simp [ownOK]) (by simp [U32, isD_u32, IsD.v]) ?_
  have e1 := cutL_length a
  have f3 := nv_cutL a
  have ha := Lm_cutL ha
  rw [← f3]
  skip
  generalize cutL a = A at *
  by_cases hA : A.length = 0
  · have c1 : (A.length : Int) = 0 := by omega
    have c2 : lim (nv A * 2 ^ n) = [] := lim_of_zero (by rw [nv_nil_of hA, Nat.zero_mul])
    simp -implicitDefEqProofs only [go_sem, Nat.reduceAdd, Nat.reduceEqDiff, Nat.reduceLT, reduceIte, reduceCtorEq, Int.reduceLE, Int.reduceLT, Int.reduceEq, Int.reduceAdd, Int.reduceMul, Int.reduceSub, Nat.reduceMul, Nat.reduceSub, Nat.reducePow, Nat.reduceLeDiff, Int.reduceToNat, DD, c1, c2]
    rfl
  · have c1 : ¬ ((A.length : Int) = 0) := by omega
    have c2 := hn0
    have c3 : IntKind.i64.wrap ((A.length : Int) + (q : Int)) = ((A.length + q : Nat) : Int) := by rw [wrap_i64 (by omega) (by omega)]; omega
    have c4 := incI (j := A.length + q) (by omega)
    have c5 : (0 : Int) ≤ ((A.length + q + 1 : Nat) : Int) := by omega
    have c6 : (0 : Int) ≤ (q : Int) := by omega
    have c7 : (q : Int) ≤ ((A.length + q + 1 : Nat) : Int) := by omega
    have c8 : A.length + q + 1 - q = A.length + 1 := by omega
    simp -implicitDefEqProofs only [go_sem, Nat.reduceAdd, Nat.reduceEqDiff, Nat.reduceLT, reduceIte, reduceCtorEq, Int.reduceLE, Int.reduceLT, Int.reduceEq, Int.reduceAdd, Int.reduceMul, Int.reduceSub, Nat.reduceMul, Nat.reduceSub, Nat.reducePow, Nat.reduceLeDiff, Int.reduceToNat, DD, c1, c2, c3, c4, c5, c6, c7, c8, ht1, ht2]
    refine ⟨⟨by omega, by omega⟩, ?_⟩
    refine loop_of aW0_mono (fun m σ => ∃ sl out i, σ = ⟨sl, [⟨u32s out, true, true⟩]⟩ ∧ m = A.length + 1 - i ∧ i ≤ A.length + 1 ∧ out.length = A.length + q + 1 ∧ Lm out ∧
      look sl 0 = .sl A.length (u32s A) ∧ look sl 5 = I64 (q : Nat) ∧ look sl 6 = I64 (r : Nat) ∧ look sl 7 = .own 1 0 0 (A.length + q + 1) ∧ look sl 29 = I64 ((A.length + 1 : Nat) : Int) ∧ look sl 30 = I64 (i : Nat) ∧
      nv (out.take (q + i)) + 4294967296 ^ (q + i) * cry A r i = 4294967296 ^ q * (2 ^ r * nv (A.take i))) ?_ (n := A.length + 1)
      ⟨_, List.replicate (A.length + q + 1) 0, 0, rfl, rfl, by omega, by simp, Lm_rep _, by simp [x_look], by simp [x_look], by simp [x_look], by simp [x_look], by simp [x_look], by simp [x_look], by rw [List.take_replicate, nv_rep]; simp [nv, cry, prv]⟩
    rintro m _ ⟨sl, out, i, rfl, rfl, hi, hlen, hLm, h0, h5, h6, h7, h29, h30, hinv⟩
    by_cases hlt : i < A.length + 1
    · have d1 : (i : Int) < ((A.length + 1 : Nat) : Int) := by omega
      have d2 : IntKind.i64.wrap ((q : Int) + (i : Int)) = ((q + i : Nat) : Int) := by rw [wrap_i64 (by omega) (by omega)]; omega
      have d3 : IntKind.i64.wrap ((i : Int) - 1) = (i : Int) - 1 := wrap_i64 (by omega) (by omega)
      simp -implicitDefEqProofs only [go_sem, Nat.reduceAdd, Nat.reduceEqDiff, Nat.reduceLT, reduceIte, reduceCtorEq, Int.reduceLE, Int.reduceLT, Int.reduceEq, Int.reduceAdd, Int.reduceMul, Int.reduceSub, Nat.reduceMul, Nat.reduceSub, Nat.reducePow, Nat.reduceLeDiff, Int.reduceToNat, DD, h0, h5, h6, h7, h29, h30, d1, d2, d3]
      refine callK_of false nat_at.call (at_nat A ha i) rfl rfl (by simp [ownOK]) (by simp [U32, isD_u32, IsD.v]) ?_
      have g1 : (0 : Int) ≤ (r : Int) := by omega
      have g2 : min r 64 = r := by omega
      have hX := Lm_getD ha i
      have hY := prv_lt ha i
      have sX := sh_mul_lt hX hr
      have sY := sh_mul_lt hY hr
      have hcy := cry_lt ha r i
      have hcd : prv A i * 2 ^ r / 4294967296 = cry A r i := rfl
      have hup := up_step (o := nv (out.take (q + i))) (q := q) ha hr hinv
      have hor := sh_or (X := A.getD i 0) hcy
      have hp := (pow_r_lt hr).1
      have w1 : IntKind.u64.wrap ((A.getD i 0 : Nat) * (2 : Int) ^ r) = ((A.getD i 0 * 2 ^ r : Nat) : Int) := by rw [show ((A.getD i 0 : Nat) : Int) * (2 : Int) ^ r = ((A.getD i 0 * 2 ^ r : Nat) : Int) by simp]; exact wrap64n (by omega)
      have w2 : IntKind.u64.wrap ((prv A i : Nat) * (2 : Int) ^ r) = ((prv A i * 2 ^ r : Nat) : Int) := by rw [show ((prv A i : Nat) : Int) * (2 : Int) ^ r = ((prv A i * 2 ^ r : Nat) : Int) by simp]; exact wrap64n (by omega)
      have w3 := fdiv32 (prv A i * 2 ^ r)
      rw [hcd] at w3
      have w4 := or64 (a := A.getD i 0 * 2 ^ r) (b := cry A r i) (by omega) (by omega)
      rw [hor] at w4
      have w5 := wrap32n (A.getD i 0 * 2 ^ r + cry A r i)
      have hlo : (A.getD i 0 * 2 ^ r + cry A r i) % 4294967296 < 4294967296 := Nat.mod_lt _ (by omega)
      generalize (A.getD i 0 * 2 ^ r + cry A r i) % 4294967296 = lo at *
      have w6 := incI (j := i) (by omega)
      have e3 : (0 : Int) ≤ ((q + i : Nat) : Int) := by omega
      have e4 : ((q + i : Nat) : Int) < ((A.length + q + 1 : Nat) : Int) := by omega
      have e5 : q + i < A.length + q + 1 := by omega
      have e6 : q + i < out.length := by omega
      have e7 : q + i + 1 ≤ out.length := by omega
      have d5 := spl_u32s (l := out) (i := q + i) (x := (lo : Int)) e6 (by omega)
      have d6 : leafA (.v (.int .u32 (lo : Int))) = true := rfl
      simp -implicitDefEqProofs only [go_sem, Nat.reduceAdd, Nat.reduceEqDiff, Nat.reduceLT, reduceIte, reduceCtorEq, Int.reduceLE, Int.reduceLT, Int.reduceEq, Int.reduceAdd, Int.reduceMul, Int.reduceSub, Nat.reduceMul, Nat.reduceSub, Nat.reducePow, Nat.reduceLeDiff, Int.reduceToNat, DD, h0, h5, h6, h7, h29, h30, d1, d2, d3, w1, g1, g2]
      refine callK_of false nat_at.call (at_prv A ha i) rfl rfl (by simp [ownOK]) (by simp [U32, isD_u32, IsD.v]) ?_
      simp -implicitDefEqProofs only [go_sem, Nat.reduceAdd, Nat.reduceEqDiff, Nat.reduceLT, reduceIte, reduceCtorEq, Int.reduceLE, Int.reduceLT, Int.reduceEq, Int.reduceAdd, Int.reduceMul, Int.reduceSub, Nat.reduceMul, Nat.reduceSub, Nat.reducePow, Nat.reduceLeDiff, Int.reduceToNat, DD, h0, h5, h6, h7, h29, h30, d1, d2, d3, w1, w2, w3, w4, w5, w6, g1, g2, e3, e4, e5, e6, e7, d5, d6, List.all_cons, List.all_nil, Bool.and_true, Bool.and_self, Int.toNat_natCast]
      refine ⟨A.length + 1 - (i + 1), by omega, _, out.set (q + i) lo, i + 1, rfl, rfl, by omega, by simp [hlen], Lm_set hLm (by omega), by simp [x_look, h0], by simp [x_look, h5], by simp [x_look, h6], by simp [x_look, h7], by simp [x_look, h29], by simp [x_look], ?_⟩
      rw [show q + (i + 1) = q + i + 1 by omega, nv_set_zero e6]
      exact hup
    · have d1 : ¬ ((i : Int) < ((A.length + 1 : Nat) : Int)) := by omega
      have hie : i = A.length + 1 := by omega
      subst hie
      simp -implicitDefEqProofs only [go_sem, Nat.reduceAdd, Nat.reduceEqDiff, Nat.reduceLT, reduceIte, reduceCtorEq, Int.reduceLE, Int.reduceLT, Int.reduceEq, Int.reduceAdd, Int.reduceMul, Int.reduceSub, Nat.reduceMul, Nat.reduceSub, Nat.reducePow, Nat.reduceLeDiff, Int.reduceToNat, DD, h0, h5, h6, h7, h29, h30, d1]
      have hz : cry A r (A.length + 1) = 0 := by simp [cry, prv_succ, List.getD_eq_getElem?_getD]
      rw [nv_take_all (l := A) (by omega), hz, nv_take_all (l := out) (by omega), up_done, ← hqr, Nat.mul_zero, Nat.add_zero] at hinv
      have e4 : cutL out = lim (nv A * 2 ^ n) := by rw [cutL_lim hLm, hinv]
      refine callK_u32 nat_cut.call (cut_sat out (by omega)) hlen ?_
      simp -implicitDefEqProofs only [go_sem, Nat.reduceAdd, Nat.reduceEqDiff, Nat.reduceLT, reduceIte, reduceCtorEq, Int.reduceLE, Int.reduceLT, Int.reduceEq, Int.reduceAdd, Int.reduceMul, Int.reduceSub, Nat.reduceMul, Nat.reduceSub, Nat.reducePow, Nat.reduceLeDiff, Int.reduceToNat, DD, e4]

theorem up_sat (a : List Nat) (n : Nat) (ha : Lm a) (hla : a.length < 1099511627776) (hn : n ≤ 100000) : Sat CT false 108 [U32 a, I64 (n : Nat)] (U32 (lim (nv a * 2 ^ n))) := up_int a (n : Nat) n (by omega) ha hla hn
theorem shl_sat (a : List Nat) (n : Int) (ha : Lm a) (hla : a.length < 1099511627776) : Sat CT false 90 [U32 a, I64 n] (U32 (lim (nv a * 2 ^ shN n))) := by
  refine sat_of nat_Shl.ok (by simp) ?_
  simp -implicitDefEqProofs only [go_sem, Nat.reduceAdd, Nat.reduceEqDiff, Nat.reduceLT, reduceIte, reduceCtorEq, Int.reduceLE, Int.reduceLT, Int.reduceEq, Int.reduceAdd, Int.reduceMul, Int.reduceSub, Nat.reduceMul, Nat.reduceSub, Nat.reducePow, Nat.reduceLeDiff, Int.reduceToNat, and_true, Tryz.f90]
  refine callK_of false nat_held.call (held_sat n) rfl rfl (by simp [ownOK]) (by simp [U32, isD_u32, IsD.v]) ?_
  simp -implicitDefEqProofs only [go_sem, Nat.reduceAdd, Nat.reduceEqDiff, Nat.reduceLT, reduceIte, reduceCtorEq, Int.reduceLE, Int.reduceLT, Int.reduceEq, Int.reduceAdd, Int.reduceMul, Int.reduceSub, Nat.reduceMul, Nat.reduceSub, Nat.reducePow, Nat.reduceLeDiff, Int.reduceToNat, and_true]
  refine callK_of false nat_Up.call (up_sat a (shN n) ha hla (shN_le n)) rfl rfl (by simp [ownOK]) (by simp [U32, isD_u32, IsD.v]) ?_
  simp -implicitDefEqProofs only [go_sem, Nat.reduceAdd, Nat.reduceEqDiff, Nat.reduceLT, reduceIte, reduceCtorEq, Int.reduceLE, Int.reduceLT, Int.reduceEq, Int.reduceAdd, Int.reduceMul, Int.reduceSub, Nat.reduceMul, Nat.reduceSub, Nat.reducePow, Nat.reduceLeDiff, Int.reduceToNat, and_true]
end Go.Ab

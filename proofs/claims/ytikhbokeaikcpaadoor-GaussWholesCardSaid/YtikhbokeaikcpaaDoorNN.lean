/- Contracts of this seat's functions (of each call: what it answers), walked over the abstract machine, and the laws of numbers that they want. Conditions: those that each theorem states. -/
import Derived.Test.YtikhbokeaikcpaaDoorFacts
import Derived.Shelf.Small.Bits
set_option linter.unusedVariables false
set_option maxRecDepth 20000
set_option linter.unusedSimpArgs false
namespace Go.Ab
open Go.Proofs

theorem cut_sat (l : List Nat) (hl : l.length < 4611686018427387904) : Sat CT false 91 [U32 l] (U32 (cutL l)) := by
  refine sat_of nat_cut.ok (by simp) ?_
  simp -implicitDefEqProofs only [go_sem, Nat.reduceAdd, Nat.reduceEqDiff, Nat.reduceLT, reduceIte, reduceCtorEq, Int.reduceLE, Int.reduceLT, Int.reduceEq, Int.reduceAdd, Int.reduceMul, Int.reduceSub, Nat.reduceMul, Nat.reduceSub, Nat.reducePow, Nat.reduceLeDiff, Int.reduceToNat, and_true, Tryd.f91]
  refine loop_of aW0_mono (fun n σ => ∃ sl, σ = ⟨sl, []⟩ ∧ n ≤ l.length ∧ look sl 0 = .sl n (u32s (l.take n)) ∧ cutL (l.take n) = cutL l) ?_ (n := l.length) ⟨_, rfl, Nat.le_refl _, by simp only [x_look, reduceIte, Nat.reduceEqDiff, List.take_length], by rw [List.take_length]⟩
  rintro n _ ⟨sl, rfl, hn, h0, hc⟩
  have hend : cutL (l.take n) = l.take n → (l.take n).length = n ∧ cutL l = l.take n := fun e => by
    have : cutL l = l.take n := by rw [← hc, e]
    exact ⟨by simp; omega, this⟩
  by_cases hn0 : n = 0
  · subst hn0
    obtain ⟨e1, e2⟩ := hend rfl
    simp -implicitDefEqProofs only [go_sem, Nat.reduceAdd, Nat.reduceEqDiff, Nat.reduceLT, reduceIte, reduceCtorEq, Int.reduceLE, Int.reduceLT, Int.reduceEq, Int.reduceAdd, Int.reduceMul, Int.reduceSub, Nat.reduceMul, Nat.reduceSub, Nat.reducePow, Nat.reduceLeDiff, Int.reduceToNat, and_true, h0, Int.natCast_zero, Int.lt_irrefl, e1, e2]
  · obtain ⟨k, rfl⟩ : ∃ k, n = k + 1 := ⟨n - 1, by omega⟩
    have hk : k < l.length := by omega
    have c1 : (0 : Int) < ((k + 1 : Nat) : Int) := by omega
    have c2 : IntKind.i64.wrap (((k + 1 : Nat) : Int) - 1) = (k : Int) := by rw [wrap_i64 (by omega) (by omega)]; omega
    have c3 : (0 : Int) ≤ (k : Int) := by omega
    have c4 : (k : Int) < ((k + 1 : Nat) : Int) := by omega
    have c5 : k < (l.take (k + 1)).length := by simp; omega
    have c6 : (u32s (l.take (k + 1))).getD k .bad = .v (.int .u32 (l.getD k 0 : Nat)) := by
      rw [getD_u32s (by simp; omega)]; simp [List.getD_eq_getElem?_getD, List.getElem?_take]
    have c7 : (l.take (k + 1)).take k = l.take k := by rw [List.take_take]; congr 1; omega
    by_cases hz : l.getD k 0 = 0
    · have c8 : ((l.getD k 0 : Nat) : Int) = 0 := by omega
      have c9 : (k : Int) ≤ ((k + 1 : Nat) : Int) := by omega
      simp -implicitDefEqProofs only [go_sem, Nat.reduceAdd, Nat.reduceEqDiff, Nat.reduceLT, reduceIte, reduceCtorEq, Int.reduceLE, Int.reduceLT, Int.reduceEq, Int.reduceAdd, Int.reduceMul, Int.reduceSub, Nat.reduceMul, Nat.reduceSub, Nat.reducePow, Nat.reduceLeDiff, Int.reduceToNat, and_true, h0, c1, c2, c3, c4, c5, c6, c7, c8, c9]
      refine ⟨k, by omega, _, rfl, by omega, ?_, ?_⟩
      · simp only [x_look, reduceIte]
      · rw [← hc, take_succ_getD l hk, hz, cutL_zero]
    · have c8 : ¬ ((l.getD k 0 : Nat) : Int) = 0 := by omega
      obtain ⟨e1, e2⟩ := hend (by rw [take_succ_getD l hk, cutL_ne _ hz])
      have c9 : k < k + 1 := by omega
      simp -implicitDefEqProofs only [go_sem, Nat.reduceAdd, Nat.reduceEqDiff, Nat.reduceLT, reduceIte, reduceCtorEq, Int.reduceLE, Int.reduceLT, Int.reduceEq, Int.reduceAdd, Int.reduceMul, Int.reduceSub, Nat.reduceMul, Nat.reduceSub, Nat.reducePow, Nat.reduceLeDiff, Int.reduceToNat, and_true, h0, c1, c2, c3, c4, c5, c6, c7, c8, c9, e1, e2]

theorem clone_sat (l : List Nat) (hl : l.length < 1099511627776) : Sat CT false 110 [U32 l] (U32 l) := by
  refine sat_of slices_Clone_uint32_uint32.ok (by simp) ?_
  simp -implicitDefEqProofs only [go_sem, Nat.reduceAdd, Nat.reduceEqDiff, Nat.reduceLT, reduceIte, reduceCtorEq, Int.reduceLE, Int.reduceLT, Int.reduceEq, Int.reduceAdd, Int.reduceMul, Int.reduceSub, Nat.reduceMul, Nat.reduceSub, Nat.reducePow, Nat.reduceLeDiff, Int.reduceToNat, and_true, Tryd.f110]
  intro b hb
  cases b with
  | true =>
    have := u32s_nil (hb rfl)
    subst this
    simp -implicitDefEqProofs only [go_sem, Nat.reduceAdd, Nat.reduceEqDiff, Nat.reduceLT, reduceIte, reduceCtorEq, Int.reduceLE, Int.reduceLT, Int.reduceEq, Int.reduceAdd, Int.reduceMul, Int.reduceSub, Nat.reduceMul, Nat.reduceSub, Nat.reducePow, Nat.reduceLeDiff, Int.reduceToNat, and_true]
    rfl
  | false =>
    have c1 : l.length ≤ 4611686018427387904 := by omega
    have c2 : l.length * 4 ≤ 140737488355328 := by omega
    simp -implicitDefEqProofs only [go_sem, Nat.reduceAdd, Nat.reduceEqDiff, Nat.reduceLT, reduceIte, reduceCtorEq, Int.reduceLE, Int.reduceLT, Int.reduceEq, Int.reduceAdd, Int.reduceMul, Int.reduceSub, Nat.reduceMul, Nat.reduceSub, Nat.reducePow, Nat.reduceLeDiff, Int.reduceToNat, and_true, c1, c2]

/-- A call with one row of the call's own, which is the only object. -/
theorem callK_u32 {f : FuncId} {m : List Nat} {n : Nat} {r : AV} {K : AV → Heap → Prop} (hc : callable CT.P f = true) (h : Sat CT false f [U32 m] r) (hn : m.length = n) (hK : K r [⟨u32s m, true, false⟩]) :
    callK CT false f [.own 1 0 0 n] [⟨u32s m, true, true⟩] K := by
  subst hn
  exact callK_of (H' := [⟨u32s m, true, false⟩]) false hc h rfl (by simp only [List.map_cons, List.map_nil, snap_own, hd, List.getD_cons_zero, List.drop_zero, Nat.mul_one, take_u32s, List.take_length, snap0_u32s, U32]) (by simp [ownOK, hd]) (by simp [U32, isD_u32]) hK

theorem trim_sat (l : List Nat) (hl : l.length < 1099511627776) : Sat CT false 105 [U32 l] (U32 (cutL l)) := by
  refine sat_of nat_Trim.ok (by simp) ?_
  have h2 := cutL_length l
  simp -implicitDefEqProofs only [go_sem, Nat.reduceAdd, Nat.reduceEqDiff, Nat.reduceLT, reduceIte, reduceCtorEq, Int.reduceLE, Int.reduceLT, Int.reduceEq, Int.reduceAdd, Int.reduceMul, Int.reduceSub, Nat.reduceMul, Nat.reduceSub, Nat.reducePow, Nat.reduceLeDiff, Int.reduceToNat, and_true, Tryd.f105]
  refine callK_of false nat_cut.call (cut_sat l (by omega)) rfl rfl (by simp [ownOK]) (by simp [U32, isD_u32]) ?_
  simp -implicitDefEqProofs only [go_sem, Nat.reduceAdd, Nat.reduceEqDiff, Nat.reduceLT, reduceIte, reduceCtorEq, Int.reduceLE, Int.reduceLT, Int.reduceEq, Int.reduceAdd, Int.reduceMul, Int.reduceSub, Nat.reduceMul, Nat.reduceSub, Nat.reducePow, Nat.reduceLeDiff, Int.reduceToNat, and_true]
  refine callK_of false slices_Clone_uint32_uint32.call (clone_sat (cutL l) (by omega)) rfl rfl (by simp [ownOK]) (by simp [U32, isD_u32]) ?_
  simp -implicitDefEqProofs only [go_sem, Nat.reduceAdd, Nat.reduceEqDiff, Nat.reduceLT, reduceIte, reduceCtorEq, Int.reduceLE, Int.reduceLT, Int.reduceEq, Int.reduceAdd, Int.reduceMul, Int.reduceSub, Nat.reduceMul, Nat.reduceSub, Nat.reducePow, Nat.reduceLeDiff, Int.reduceToNat, and_true]

theorem at_nat (l : List Nat) (hm : Lm l) (j : Nat) : Sat CT false 109 [U32 l, I64 j] (W64 (l.getD j 0 : Nat)) := by
  refine sat_of nat_at.ok (by simp) ?_
  have c1 : ¬ ((j : Int) < 0) := by omega
  by_cases h : j < l.length
  · have c2 : ¬ ((l.length : Int) ≤ (j : Int)) := by omega
    have c3 : (0 : Int) ≤ (j : Int) := by omega
    have c4 : (j : Int) < (l.length : Int) := by omega
    have c5 := getD_u32s h
    have c6 : IntKind.u64.wrap ((l.getD j 0 : Nat) : Int) = ((l.getD j 0 : Nat) : Int) := by
      have := Lm_getD hm j
      exact wrap_u64 (by omega) (by omega)
    simp -implicitDefEqProofs only [go_sem, Nat.reduceAdd, Nat.reduceEqDiff, Nat.reduceLT, reduceIte, reduceCtorEq, Int.reduceLE, Int.reduceLT, Int.reduceEq, Int.reduceAdd, Int.reduceMul, Int.reduceSub, Nat.reduceMul, Nat.reduceSub, Nat.reducePow, Nat.reduceLeDiff, Int.reduceToNat, and_true, Tryd.f109, c1, c2, c3, c4, h, c5, c6]
  · have c2 : (l.length : Int) ≤ (j : Int) := by omega
    have c3 : l.getD j 0 = 0 := by simp [List.getD_eq_getElem?_getD, Nat.not_lt.mp h]
    simp -implicitDefEqProofs only [go_sem, Nat.reduceAdd, Nat.reduceEqDiff, Nat.reduceLT, reduceIte, reduceCtorEq, Int.reduceLE, Int.reduceLT, Int.reduceEq, Int.reduceAdd, Int.reduceMul, Int.reduceSub, Nat.reduceMul, Nat.reduceSub, Nat.reducePow, Nat.reduceLeDiff, Int.reduceToNat, and_true, Tryd.f109, c1, c2, c3]
theorem at_neg (l : List Nat) (i : Int) (hi : i < 0) : Sat CT false 109 [U32 l, I64 i] (W64 0) := by
  refine sat_of nat_at.ok (by simp) ?_
  simp -implicitDefEqProofs only [go_sem, Nat.reduceAdd, Nat.reduceEqDiff, Nat.reduceLT, reduceIte, reduceCtorEq, Int.reduceLE, Int.reduceLT, Int.reduceEq, Int.reduceAdd, Int.reduceMul, Int.reduceSub, Nat.reduceMul, Nat.reduceSub, Nat.reducePow, Nat.reduceLeDiff, Int.reduceToNat, and_true, Tryd.f109, hi]
end Go.Ab

set_option linter.unusedVariables false
set_option maxRecDepth 20000
set_option linter.unusedSimpArgs false
namespace Go.Ab
open Go.Proofs

theorem fdiv32 (n : Nat) : ((n : Nat) : Int).fdiv (2 ^ 32) = ((n / 4294967296 : Nat) : Int) := by
  rw [Int.fdiv_eq_ediv_of_nonneg _ (by omega)]; omega
theorem wrap32n (n : Nat) : IntKind.u32.wrap (n : Int) = ((n % 4294967296 : Nat) : Int) := by rw [wrap_u32]; omega
theorem wrap64n {n : Nat} (h : n < 18446744073709551616) : IntKind.u64.wrap (n : Int) = (n : Int) := wrap_u64 (by omega) (by omega)

theorem nat_add_sat (a b : List Nat) (ha : Lm a) (hb : Lm b) (hla : a.length < 1099511627776) (hlb : b.length < 1099511627776) : Sat CT false 101 [U32 a, U32 b] (U32 (lim (nv a + nv b))) := by
  refine sat_of nat_Add.ok (by simp) ?_
  obtain ⟨n, hn⟩ : ∃ n, max a.length b.length = n := ⟨_, rfl⟩
  have c0 : max (a.length : Int) (b.length : Int) = (n : Int) := by omega
  have c1 : IntKind.i64.wrap ((n : Int) + 1) = ((n + 1 : Nat) : Int) := by rw [wrap_i64 (by omega) (by omega)]; omega
  have c2 : (0 : Int) ≤ ((n + 1 : Nat) : Int) := by omega
  simp -implicitDefEqProofs only [go_sem, Nat.reduceAdd, Nat.reduceEqDiff, Nat.reduceLT, reduceIte, reduceCtorEq, Int.reduceLE, Int.reduceLT, Int.reduceEq, Int.reduceAdd, Int.reduceMul, Int.reduceSub, Nat.reduceMul, Nat.reduceSub, Nat.reducePow, Nat.reduceLeDiff, Int.reduceToNat, and_true, Tryd.f101, c0, c1, c2]
  refine ⟨⟨by omega, by omega⟩, ?_⟩
  refine loop_of aW0_mono (fun m σ => ∃ sl out c j, σ = ⟨sl, [⟨u32s out, true, true⟩]⟩ ∧ m = n + 1 - j ∧ j ≤ n + 1 ∧ out.length = n + 1 ∧ Lm out ∧ c ≤ 1 ∧
      look sl 0 = .sl a.length (u32s a) ∧ look sl 1 = .sl b.length (u32s b) ∧ look sl 5 = .own 1 0 0 (n + 1) ∧ look sl 6 = W64 (c : Nat) ∧ look sl 16 = I64 ((n + 1 : Nat) : Int) ∧ look sl 17 = I64 (j : Nat) ∧
      nv (out.take j) + 4294967296 ^ j * c = nv (a.take j) + nv (b.take j)) ?_ (n := n + 1)
    ⟨_, List.replicate (n + 1) 0, 0, 0, rfl, rfl, by omega, by simp, Lm_rep _, by omega, by simp [x_look], by simp [x_look], by simp [x_look], by simp [x_look], by simp [x_look], by simp [x_look], by simp [nv]⟩
  rintro m _ ⟨sl, out, c, j, rfl, rfl, hj, hlen, hLm, hc, h0, h1, h5, h6, h16, h17, hinv⟩
  by_cases hlt : j < n + 1
  · have d1 : (j : Int) < ((n + 1 : Nat) : Int) := by omega
    simp -implicitDefEqProofs only [go_sem, Nat.reduceAdd, Nat.reduceEqDiff, Nat.reduceLT, reduceIte, reduceCtorEq, Int.reduceLE, Int.reduceLT, Int.reduceEq, Int.reduceAdd, Int.reduceMul, Int.reduceSub, Nat.reduceMul, Nat.reduceSub, Nat.reducePow, Nat.reduceLeDiff, Int.reduceToNat, and_true, h0, h1, h5, h6, h16, h17, d1]
    refine callK_of false nat_at.call (at_nat a ha j) rfl rfl (by simp [ownOK]) (by simp [U32, isD_u32, IsD.v]) ?_
    simp -implicitDefEqProofs only [go_sem, Nat.reduceAdd, Nat.reduceEqDiff, Nat.reduceLT, reduceIte, reduceCtorEq, Int.reduceLE, Int.reduceLT, Int.reduceEq, Int.reduceAdd, Int.reduceMul, Int.reduceSub, Nat.reduceMul, Nat.reduceSub, Nat.reducePow, Nat.reduceLeDiff, Int.reduceToNat, and_true, h0, h1, h5, h6, h16, h17, d1]
    refine callK_of false nat_at.call (at_nat b hb j) rfl rfl (by simp [ownOK]) (by simp [U32, isD_u32, IsD.v]) ?_
    have hX := Lm_getD ha j
    have hY := Lm_getD hb j
    generalize hXe : a.getD j 0 = X at hX ⊢
    generalize hYe : b.getD j 0 = Y at hY ⊢
    have w1 : IntKind.u64.wrap ((X : Int) + (Y : Int)) = ((X + Y : Nat) : Int) := by rw [wrap_u64 (by omega) (by omega)]; omega
    have w2 : IntKind.u64.wrap ((c : Int) + ((X + Y : Nat) : Int)) = ((c + X + Y : Nat) : Int) := by rw [wrap_u64 (by omega) (by omega)]; omega
    have w3 := wrap32n (c + X + Y)
    have w4 := fdiv32 (c + X + Y)
    have w5 : IntKind.i64.wrap ((j : Int) + 1) = ((j + 1 : Nat) : Int) := by rw [wrap_i64 (by omega) (by omega)]; omega
    have d2 : (0 : Int) ≤ (j : Int) := by omega
    have d3 : j < out.length := by omega
    have d4 : j + 1 ≤ out.length := by omega
    have d5 := spl_u32s (l := out) (i := j) (x := (((c + X + Y) % 4294967296 : Nat) : Int)) d3 (by omega)
    have d6 : leafA (.v (.int .u32 (((c + X + Y) % 4294967296 : Nat) : Int))) = true := rfl
    simp -implicitDefEqProofs only [go_sem, Nat.reduceAdd, Nat.reduceEqDiff, Nat.reduceLT, reduceIte, reduceCtorEq, Int.reduceLE, Int.reduceLT, Int.reduceEq, Int.reduceAdd, Int.reduceMul, Int.reduceSub, Nat.reduceMul, Nat.reduceSub, Nat.reducePow, Nat.reduceLeDiff, Int.reduceToNat, and_true, h0, h1, h5, h6, h16, h17, d1, d2, d3, d4, d5, d6, w1, w2, w3, w4, w5, List.all_cons, List.all_nil, Bool.and_true, Bool.and_self, Int.toNat_natCast]
    refine ⟨n + 1 - (j + 1), by omega, _, out.set j ((c + X + Y) % 4294967296), (c + X + Y) / 4294967296, j + 1, rfl, rfl, by omega, by simp [hlen], Lm_set hLm (by omega), by omega,
      by simp [x_look, h0], by simp [x_look, h1], by simp [x_look, h5], by simp [x_look], by simp [x_look, h16], by simp [x_look], ?_⟩
    rw [nv_set_zero d3, nv_take_succ, nv_take_succ, hXe, hYe]
    exact add_step j hinv rfl
  · have d1 : ¬ ((j : Int) < ((n + 1 : Nat) : Int)) := by omega
    have hje : j = n + 1 := by omega
    subst hje
    simp -implicitDefEqProofs only [go_sem, Nat.reduceAdd, Nat.reduceEqDiff, Nat.reduceLT, reduceIte, reduceCtorEq, Int.reduceLE, Int.reduceLT, Int.reduceEq, Int.reduceAdd, Int.reduceMul, Int.reduceSub, Nat.reduceMul, Nat.reduceSub, Nat.reducePow, Nat.reduceLeDiff, Int.reduceToNat, and_true, h0, h1, h5, h6, h16, h17, d1]
    refine callK_u32 nat_cut.call (cut_sat out (by omega)) hlen ?_
    have e1 := nv_lt_of ha (n := n) (by omega)
    have e2 := nv_lt_of hb (n := n) (by omega)
    rw [nv_take_all (by omega), nv_take_all (by omega), nv_take_all (by omega)] at hinv
    obtain ⟨_, e3⟩ := add_done hinv rfl e1 e2
    have e4 : cutL out = lim (nv a + nv b) := by rw [cutL_lim hLm, e3]
    simp -implicitDefEqProofs only [go_sem, Nat.reduceAdd, Nat.reduceEqDiff, Nat.reduceLT, reduceIte, reduceCtorEq, Int.reduceLE, Int.reduceLT, Int.reduceEq, Int.reduceAdd, Int.reduceMul, Int.reduceSub, Nat.reduceMul, Nat.reduceSub, Nat.reducePow, Nat.reduceLeDiff, Int.reduceToNat, and_true, e4]
end Go.Ab

set_option linter.unusedVariables false
set_option maxRecDepth 20000
set_option linter.unusedSimpArgs false
namespace Go.Ab
open Go.Proofs

theorem same_sat (a b : List Nat) (hla : a.length < 1099511627776) (hlb : b.length < 1099511627776) : Sat CT false 64 [U32 a, U32 b] (Bo (decide (a = b))) := by
  refine sat_of annulusref1_Same.ok (by simp) ?_
  have DD := annulusref1_Same.dr
  simp only [drP, drPx, drPt, drR, drS, drT, bodyOf, Tryd.f64, Nat.reduceEqDiff, reduceIte, true_and, and_true] at DD
  by_cases hl : a.length = b.length
  · have c1 : (a.length : Int) = b.length := by omega
    simp -implicitDefEqProofs only [go_sem, Nat.reduceAdd, Nat.reduceEqDiff, Nat.reduceLT, reduceIte, reduceCtorEq, Int.reduceLE, Int.reduceLT, Int.reduceEq, Int.reduceAdd, Int.reduceMul, Int.reduceSub, Nat.reduceMul, Nat.reduceSub, Nat.reducePow, Nat.reduceLeDiff, Int.reduceToNat, Tryd.f64, DD, c1]
    refine loop_of aW0_mono (fun m σ => ∃ sl j, σ = ⟨sl, []⟩ ∧ m = a.length - j ∧ j ≤ a.length ∧ look sl 0 = .sl a.length (u32s a) ∧ look sl 1 = .sl b.length (u32s b) ∧ look sl 5 = I64 (j : Nat) ∧ a.take j = b.take j) ?_ (n := a.length)
      ⟨_, 0, rfl, rfl, by omega, by simp [x_look, hl], by simp [x_look, hl], by simp [x_look], rfl⟩
    rintro m _ ⟨sl, j, rfl, rfl, hj, h0, h1, h5, hinv⟩
    by_cases hlt : j < a.length
    · have d1 : (j : Int) < (a.length : Int) := by omega
      have d1' : (j : Int) < (b.length : Int) := by omega
      have d2 : (0 : Int) ≤ (j : Int) := by omega
      have d3 := getD_u32s hlt
      have d4 := getD_u32s (l := b) (i := j) (by omega)
      have d5 : j < b.length := by omega
      by_cases he : a.getD j 0 = b.getD j 0
      · have d6 : ((a.getD j 0 : Nat) : Int) = ((b.getD j 0 : Nat) : Int) := by rw [he]
        have d7 := incI (j := j) (by omega)
        simp -implicitDefEqProofs only [go_sem, Nat.reduceAdd, Nat.reduceEqDiff, Nat.reduceLT, reduceIte, reduceCtorEq, Int.reduceLE, Int.reduceLT, Int.reduceEq, Int.reduceAdd, Int.reduceMul, Int.reduceSub, Nat.reduceMul, Nat.reduceSub, Nat.reducePow, Nat.reduceLeDiff, Int.reduceToNat, DD, h0, h1, h5, hl, d1, d1', d2, d3, d4, d5, d6, d7, hlt]
        refine ⟨a.length - (j + 1), by omega, _, j + 1, rfl, by omega, by omega, by simp [x_look, h0, hl], by simp [x_look, h1, hl], by simp [x_look], ?_⟩
        rw [take_succ_getD a hlt, take_succ_getD b (by omega), hinv, he]
      · have d6 : ¬ ((a.getD j 0 : Nat) : Int) = ((b.getD j 0 : Nat) : Int) := by omega
        have d7 : decide (a = b) = false := by simp; intro h; exact he (by rw [h])
        simp -implicitDefEqProofs only [go_sem, Nat.reduceAdd, Nat.reduceEqDiff, Nat.reduceLT, reduceIte, reduceCtorEq, Int.reduceLE, Int.reduceLT, Int.reduceEq, Int.reduceAdd, Int.reduceMul, Int.reduceSub, Nat.reduceMul, Nat.reduceSub, Nat.reducePow, Nat.reduceLeDiff, Int.reduceToNat, DD, h0, h1, h5, hl, d1, d1', d2, d3, d4, d5, d6, d7, hlt]
    · have d1 : ¬ ((j : Int) < (a.length : Int)) := by omega
      have d1' : ¬ ((j : Int) < (b.length : Int)) := by omega
      have d7 : decide (a = b) = true := by
        have := hinv
        rw [List.take_of_length_le (by omega), List.take_of_length_le (by omega)] at this
        simp [this]
      simp -implicitDefEqProofs only [go_sem, Nat.reduceAdd, Nat.reduceEqDiff, Nat.reduceLT, reduceIte, reduceCtorEq, Int.reduceLE, Int.reduceLT, Int.reduceEq, Int.reduceAdd, Int.reduceMul, Int.reduceSub, Nat.reduceMul, Nat.reduceSub, Nat.reducePow, Nat.reduceLeDiff, Int.reduceToNat, DD, h0, h1, h5, hl, d1, d1', d7]
  · have c1 : ¬ (a.length : Int) = b.length := by omega
    have c2 : decide (a = b) = false := by simp; intro h; exact hl (by rw [h])
    simp -implicitDefEqProofs only [go_sem, Nat.reduceAdd, Nat.reduceEqDiff, Nat.reduceLT, reduceIte, reduceCtorEq, Int.reduceLE, Int.reduceLT, Int.reduceEq, Int.reduceAdd, Int.reduceMul, Int.reduceSub, Nat.reduceMul, Nat.reduceSub, Nat.reducePow, Nat.reduceLeDiff, Int.reduceToNat, Tryd.f64, DD, c1, c2]

theorem rtrim_sat (l : List Nat) (hl : l.length < 4611686018427387904) : Sat CT false 88 [U32 l] (U32 (cutL l)) := by
  refine sat_of annulusref1_Trim.ok (by simp) ?_
  have DD := annulusref1_Trim.dr
  simp only [drP, drPx, drPt, drR, drS, drT, bodyOf, Tryd.f88, Nat.reduceEqDiff, reduceIte, true_and, and_true] at DD
  simp -implicitDefEqProofs only [go_sem, Nat.reduceAdd, Nat.reduceEqDiff, Nat.reduceLT, reduceIte, reduceCtorEq, Int.reduceLE, Int.reduceLT, Int.reduceEq, Int.reduceAdd, Int.reduceMul, Int.reduceSub, Nat.reduceMul, Nat.reduceSub, Nat.reducePow, Nat.reduceLeDiff, Int.reduceToNat, Tryd.f88, DD]
  refine loop_of aW0_mono (fun n σ => ∃ sl, σ = ⟨sl, []⟩ ∧ n ≤ l.length ∧ look sl 0 = .sl l.length (u32s l) ∧ look sl 3 = I64 (n : Nat) ∧ cutL (l.take n) = cutL l) ?_ (n := l.length) ⟨_, rfl, Nat.le_refl _, by simp only [x_look, reduceIte, Nat.reduceEqDiff], by simp only [x_look, reduceIte, Nat.reduceEqDiff], by rw [List.take_length]⟩
  rintro n _ ⟨sl, rfl, hn, h0, h3, hc⟩
  have hend : cutL (l.take n) = l.take n → (l.take n).length = n ∧ cutL l = l.take n := fun e => by
    have : cutL l = l.take n := by rw [← hc, e]
    exact ⟨by simp; omega, this⟩
  have c10 : (0 : Int) ≤ (n : Int) := by omega
  have c11 : (n : Int) ≤ (l.length : Int) := by omega
  by_cases hn0 : n = 0
  · subst hn0
    obtain ⟨e1, e2⟩ := hend rfl
    simp -implicitDefEqProofs only [go_sem, Nat.reduceAdd, Nat.reduceEqDiff, Nat.reduceLT, reduceIte, reduceCtorEq, Int.reduceLE, Int.reduceLT, Int.reduceEq, Int.reduceAdd, Int.reduceMul, Int.reduceSub, Nat.reduceMul, Nat.reduceSub, Nat.reducePow, Nat.reduceLeDiff, Int.reduceToNat, DD, h0, h3, Int.natCast_zero, Int.lt_irrefl, e1, e2, c11, c10, Nat.zero_le]
    exact ⟨by omega, rfl⟩
  · obtain ⟨k, rfl⟩ : ∃ k, n = k + 1 := ⟨n - 1, by omega⟩
    have hk : k < l.length := by omega
    have c1 : (0 : Int) < ((k + 1 : Nat) : Int) := by omega
    have c2 := decI (j := k) (by omega)
    have c3 : (0 : Int) ≤ (k : Int) := by omega
    have c4 : (k : Int) < (l.length : Int) := by omega
    have c5 := getD_u32s hk
    by_cases hz : l.getD k 0 = 0
    · have c8 : ((l.getD k 0 : Nat) : Int) = 0 := by omega
      simp -implicitDefEqProofs only [go_sem, Nat.reduceAdd, Nat.reduceEqDiff, Nat.reduceLT, reduceIte, reduceCtorEq, Int.reduceLE, Int.reduceLT, Int.reduceEq, Int.reduceAdd, Int.reduceMul, Int.reduceSub, Nat.reduceMul, Nat.reduceSub, Nat.reducePow, Nat.reduceLeDiff, Int.reduceToNat, DD, h0, h3, c1, c2, c3, c4, c5, c8, hk]
      refine ⟨k, by omega, _, rfl, by omega, ?_, ?_, ?_⟩
      · simp [x_look, h0]
      · simp only [x_look, reduceIte]
      · rw [← hc, take_succ_getD l hk, hz, cutL_zero]
    · have c8 : ¬ ((l.getD k 0 : Nat) : Int) = 0 := by omega
      obtain ⟨e1, e2⟩ := hend (by rw [take_succ_getD l hk, cutL_ne _ hz])
      simp -implicitDefEqProofs only [go_sem, Nat.reduceAdd, Nat.reduceEqDiff, Nat.reduceLT, reduceIte, reduceCtorEq, Int.reduceLE, Int.reduceLT, Int.reduceEq, Int.reduceAdd, Int.reduceMul, Int.reduceSub, Nat.reduceMul, Nat.reduceSub, Nat.reducePow, Nat.reduceLeDiff, Int.reduceToNat, DD, h0, h3, c1, c2, c3, c4, c5, c8, e1, e2, c10, c11, hk, hn]

theorem rat_nat (l : List Nat) (hm : Lm l) (j : Nat) : Sat CT false 90 [U32 l, I64 j] (W64 (l.getD j 0 : Nat)) := by
  refine sat_of annulusref1_at.ok (by simp) ?_
  by_cases h : j < l.length
  · have c3 : (0 : Int) ≤ (j : Int) := by omega
    have c4 : (j : Int) < (l.length : Int) := by omega
    have c5 := getD_u32s h
    have c6 : IntKind.u64.wrap ((l.getD j 0 : Nat) : Int) = ((l.getD j 0 : Nat) : Int) := by
      have := Lm_getD hm j
      exact wrap_u64 (by omega) (by omega)
    simp -implicitDefEqProofs only [go_sem, Nat.reduceAdd, Nat.reduceEqDiff, Nat.reduceLT, reduceIte, reduceCtorEq, Int.reduceLE, Int.reduceLT, Int.reduceEq, Int.reduceAdd, Int.reduceMul, Int.reduceSub, Nat.reduceMul, Nat.reduceSub, Nat.reducePow, Nat.reduceLeDiff, Int.reduceToNat, and_true, Tryd.f90, c3, c4, h, c5, c6, isD_v]
  · have c2 : ¬ ((j : Int) < (l.length : Int)) := by omega
    have c3 : l.getD j 0 = 0 := by simp [List.getD_eq_getElem?_getD, Nat.not_lt.mp h]
    simp -implicitDefEqProofs only [go_sem, Nat.reduceAdd, Nat.reduceEqDiff, Nat.reduceLT, reduceIte, reduceCtorEq, Int.reduceLE, Int.reduceLT, Int.reduceEq, Int.reduceAdd, Int.reduceMul, Int.reduceSub, Nat.reduceMul, Nat.reduceSub, Nat.reducePow, Nat.reduceLeDiff, Int.reduceToNat, and_true, Tryd.f90, c2, c3, isD_v]

theorem cmp_sat (a b : List Nat) (ha : Lm a) (hb : Lm b) (hla : a.length < 1099511627776) (hlb : b.length < 1099511627776) : Sat CT false 95 [U32 a, U32 b] (I64 (cmpN (nv a) (nv b))) := by
  refine sat_of nat_Cmp.ok (by simp) ?_
  have DD := nat_Cmp.dr
  simp only [drP, drPx, drPt, drR, drS, drT, bodyOf, Tryd.f95, Nat.reduceEqDiff, reduceIte, true_and, and_true] at DD
  simp -implicitDefEqProofs only [go_sem, Nat.reduceAdd, Nat.reduceEqDiff, Nat.reduceLT, reduceIte, reduceCtorEq, Int.reduceLE, Int.reduceLT, Int.reduceEq, Int.reduceAdd, Int.reduceMul, Int.reduceSub, Nat.reduceMul, Nat.reduceSub, Nat.reducePow, Nat.reduceLeDiff, Int.reduceToNat, Tryd.f95, DD]
  refine callK_of false nat_cut.call (cut_sat a (by omega)) rfl rfl (by simp [ownOK]) (by simp [U32, isD_u32]) ?_
  simp -implicitDefEqProofs only [go_sem, Nat.reduceAdd, Nat.reduceEqDiff, Nat.reduceLT, reduceIte, reduceCtorEq, Int.reduceLE, Int.reduceLT, Int.reduceEq, Int.reduceAdd, Int.reduceMul, Int.reduceSub, Nat.reduceMul, Nat.reduceSub, Nat.reducePow, Nat.reduceLeDiff, Int.reduceToNat, DD]
  refine callK_of false nat_cut.call (cut_sat b (by omega)) rfl rfl (by simp [ownOK]) (by simp [U32, isD_u32]) ?_
  have e1 := cutL_length a
  have e2 := cutL_length b
  have f1 := cutL_lim ha
  have f2 := cutL_lim hb
  have f3 := nv_cutL a
  have f4 := nv_cutL b
  have la := Lm_cutL ha
  have lb := Lm_cutL hb
  rw [← f3, ← f4]
  rw [← f3] at f1
  rw [← f4] at f2
  generalize cutL a = A at *
  generalize cutL b = B at *
  clear ha hb f3 f4
  by_cases hl : A.length = B.length
  · have c1 : (A.length : Int) = B.length := by omega
    have c2 : IntKind.i64.wrap ((B.length : Int) - 1) = (B.length : Int) - 1 := wrap_i64 (by omega) (by omega)
    simp -implicitDefEqProofs only [go_sem, Nat.reduceAdd, Nat.reduceEqDiff, Nat.reduceLT, reduceIte, reduceCtorEq, Int.reduceLE, Int.reduceLT, Int.reduceEq, Int.reduceAdd, Int.reduceMul, Int.reduceSub, Nat.reduceMul, Nat.reduceSub, Nat.reducePow, Nat.reduceLeDiff, Int.reduceToNat, DD, c1, c2]
    refine loop_of aW0_mono (fun m σ => ∃ sl, σ = ⟨sl, []⟩ ∧ m ≤ A.length ∧ look sl 0 = .sl A.length (u32s A) ∧ look sl 1 = .sl B.length (u32s B) ∧ look sl 5 = I64 ((m : Int) - 1) ∧ A.drop m = B.drop m) ?_ (n := A.length)
      ⟨_, rfl, by omega, by simp [x_look, hl], by simp [x_look, hl], by simp [x_look, hl], by rw [List.drop_of_length_le (by omega), List.drop_of_length_le (by omega)]⟩
    rintro m _ ⟨sl, rfl, hm, h0, h1, h5, hinv⟩
    cases m with
    | zero =>
      have d1 : ¬ ((0 : Int) ≤ ((0 : Nat) : Int) - 1) := by omega
      have d2 := cmpN_eq (show nv A = nv B by simp at hinv; rw [hinv])
      simp -implicitDefEqProofs only [go_sem, Nat.reduceAdd, Nat.reduceEqDiff, Nat.reduceLT, reduceIte, reduceCtorEq, Int.reduceLE, Int.reduceLT, Int.reduceEq, Int.reduceAdd, Int.reduceMul, Int.reduceSub, Nat.reduceMul, Nat.reduceSub, Nat.reducePow, Nat.reduceLeDiff, Int.reduceToNat, DD, h0, h1, h5, d1, d2]
    | succ k =>
      have d0 : ((k + 1 : Nat) : Int) - 1 = (k : Int) := by omega
      have d1 : (0 : Int) ≤ (k : Int) := by omega
      have d2 : (k : Int) < (A.length : Int) := by omega
      have d3 : (k : Int) < (B.length : Int) := by omega
      have d4 : k < A.length := by omega
      have d5 : k < B.length := by omega
      have d6 := getD_u32s d4
      have d7 := getD_u32s d5
      have d8 : IntKind.i64.wrap ((k : Int) - 1) = (k : Int) - 1 := wrap_i64 (by omega) (by omega)
      rw [d0] at h5
      rcases Nat.lt_trichotomy (A.getD k 0) (B.getD k 0) with q | q | q
      · have d9 : ((A.getD k 0 : Nat) : Int) < ((B.getD k 0 : Nat) : Int) := by omega
        have d10 := cmpN_lt (nv_lt_drop la d4 d5 hinv q)
        simp -implicitDefEqProofs only [go_sem, Nat.reduceAdd, Nat.reduceEqDiff, Nat.reduceLT, reduceIte, reduceCtorEq, Int.reduceLE, Int.reduceLT, Int.reduceEq, Int.reduceAdd, Int.reduceMul, Int.reduceSub, Nat.reduceMul, Nat.reduceSub, Nat.reducePow, Nat.reduceLeDiff, Int.reduceToNat, DD, h0, h1, h5, d1, d2, d3, d4, d5, d6, d7, d8, d9, d10]
      · have d9 : ¬ ((A.getD k 0 : Nat) : Int) < ((B.getD k 0 : Nat) : Int) := by omega
        have d10 : ¬ ((B.getD k 0 : Nat) : Int) < ((A.getD k 0 : Nat) : Int) := by omega
        simp -implicitDefEqProofs only [go_sem, Nat.reduceAdd, Nat.reduceEqDiff, Nat.reduceLT, reduceIte, reduceCtorEq, Int.reduceLE, Int.reduceLT, Int.reduceEq, Int.reduceAdd, Int.reduceMul, Int.reduceSub, Nat.reduceMul, Nat.reduceSub, Nat.reducePow, Nat.reduceLeDiff, Int.reduceToNat, DD, h0, h1, h5, d1, d2, d3, d4, d5, d6, d7, d8, d9, d10]
        refine ⟨k, by omega, _, rfl, by omega, by simp [x_look, h0], by simp [x_look, h1], by simp [x_look], ?_⟩
        rw [List.drop_eq_getElem_cons d4, List.drop_eq_getElem_cons d5, hinv]
        congr 1
        simpa [List.getD_eq_getElem?_getD, d4, d5] using q
      · have d9 : ¬ ((A.getD k 0 : Nat) : Int) < ((B.getD k 0 : Nat) : Int) := by omega
        have d10 : ((B.getD k 0 : Nat) : Int) < ((A.getD k 0 : Nat) : Int) := by omega
        have d11 := cmpN_gt (nv_lt_drop lb d5 d4 hinv.symm q)
        simp -implicitDefEqProofs only [go_sem, Nat.reduceAdd, Nat.reduceEqDiff, Nat.reduceLT, reduceIte, reduceCtorEq, Int.reduceLE, Int.reduceLT, Int.reduceEq, Int.reduceAdd, Int.reduceMul, Int.reduceSub, Nat.reduceMul, Nat.reduceSub, Nat.reducePow, Nat.reduceLeDiff, Int.reduceToNat, DD, h0, h1, h5, d1, d2, d3, d4, d5, d6, d7, d8, d9, d10, d11]
  · have c1 : ¬ (A.length : Int) = B.length := by omega
    rcases Nat.lt_or_gt_of_ne hl with q | q
    · have c2 : (A.length : Int) < B.length := by omega
      have c3 := cmpN_lt (lim_lt (x := nv A) (y := nv B) (by rw [← f1, ← f2]; exact q))
      simp -implicitDefEqProofs only [go_sem, Nat.reduceAdd, Nat.reduceEqDiff, Nat.reduceLT, reduceIte, reduceCtorEq, Int.reduceLE, Int.reduceLT, Int.reduceEq, Int.reduceAdd, Int.reduceMul, Int.reduceSub, Nat.reduceMul, Nat.reduceSub, Nat.reducePow, Nat.reduceLeDiff, Int.reduceToNat, DD, c1, c2, c3]
    · have c2 : ¬ (A.length : Int) < B.length := by omega
      have c3 := cmpN_gt (lim_lt (x := nv B) (y := nv A) (by rw [← f1, ← f2]; exact q))
      simp -implicitDefEqProofs only [go_sem, Nat.reduceAdd, Nat.reduceEqDiff, Nat.reduceLT, reduceIte, reduceCtorEq, Int.reduceLE, Int.reduceLT, Int.reduceEq, Int.reduceAdd, Int.reduceMul, Int.reduceSub, Nat.reduceMul, Nat.reduceSub, Nat.reducePow, Nat.reduceLeDiff, Int.reduceToNat, DD, c1, c2, c3]

end Go.Ab

set_option linter.unusedVariables false
set_option maxRecDepth 20000
set_option linter.unusedSimpArgs false
namespace Go.Ab
open Go.Proofs

theorem sub_ok (a b : List Nat) (ha : Lm a) (hb : Lm b) (hla : a.length < 1099511627776) (hlb : b.length < 1099511627776) (hle : nv b ≤ nv a) : Sat CT false 102 [U32 a, U32 b] (.tup [U32 (lim (nv a - nv b)), Bo true]) := by
  refine sat_of nat_Sub.ok (by simp) ?_
  have DD := nat_Sub.dr
  simp only [drP, drPx, drPt, drR, drS, drT, bodyOf, Tryd.f102, Nat.reduceEqDiff, reduceIte, true_and, and_true] at DD
  simp -implicitDefEqProofs only [go_sem, Nat.reduceAdd, Nat.reduceEqDiff, Nat.reduceLT, reduceIte, reduceCtorEq, Int.reduceLE, Int.reduceLT, Int.reduceEq, Int.reduceAdd, Int.reduceMul, Int.reduceSub, Nat.reduceMul, Nat.reduceSub, Nat.reducePow, Nat.reduceLeDiff, Int.reduceToNat, Tryd.f102, DD]
  refine callK_of false nat_Cmp.call (cmp_sat a b ha hb hla hlb) rfl rfl (by simp [ownOK]) (by simp [U32, isD_u32, IsD.v]) ?_
  have c0 : ¬ (cmpN (nv a) (nv b) < 0) := by unfold cmpN; rw [if_neg (by omega)]; split <;> decide
  have c1 : (0 : Int) ≤ (a.length : Int) := by omega
  simp -implicitDefEqProofs only [go_sem, Nat.reduceAdd, Nat.reduceEqDiff, Nat.reduceLT, reduceIte, reduceCtorEq, Int.reduceLE, Int.reduceLT, Int.reduceEq, Int.reduceAdd, Int.reduceMul, Int.reduceSub, Nat.reduceMul, Nat.reduceSub, Nat.reducePow, Nat.reduceLeDiff, Int.reduceToNat, DD, c0, c1]
  refine ⟨by omega, ?_⟩
  refine loop_of aW0_mono (fun m σ => ∃ sl out c j, σ = ⟨sl, [⟨u32s out, true, true⟩]⟩ ∧ m = a.length - j ∧ j ≤ a.length ∧ out.length = a.length ∧ Lm out ∧ c ≤ 1 ∧
      look sl 0 = .sl a.length (u32s a) ∧ look sl 1 = .sl b.length (u32s b) ∧ look sl 6 = .own 1 0 0 a.length ∧ look sl 7 = W64 (c : Nat) ∧ look sl 18 = I64 (a.length : Nat) ∧ look sl 19 = I64 (j : Nat) ∧
      nv (out.take j) + nv (b.take j) = nv (a.take j) + 4294967296 ^ j * c) ?_ (n := a.length)
    ⟨_, List.replicate a.length 0, 0, 0, rfl, rfl, by omega, by simp, Lm_rep _, by omega, by simp [x_look], by simp [x_look], by simp [x_look], by simp [x_look], by simp [x_look], by simp [x_look], by simp [nv]⟩
  rintro m _ ⟨sl, out, c, j, rfl, rfl, hj, hlen, hLm, hc, h0, h1, h6, h7, h18, h19, hinv⟩
  by_cases hlt : j < a.length
  · have d1 : (j : Int) < (a.length : Int) := by omega
    simp -implicitDefEqProofs only [go_sem, Nat.reduceAdd, Nat.reduceEqDiff, Nat.reduceLT, reduceIte, reduceCtorEq, Int.reduceLE, Int.reduceLT, Int.reduceEq, Int.reduceAdd, Int.reduceMul, Int.reduceSub, Nat.reduceMul, Nat.reduceSub, Nat.reducePow, Nat.reduceLeDiff, Int.reduceToNat, DD, h0, h1, h6, h7, h18, h19, d1]
    refine callK_of false nat_at.call (at_nat a ha j) rfl rfl (by simp [ownOK]) (by simp [U32, isD_u32, IsD.v]) ?_
    simp -implicitDefEqProofs only [go_sem, Nat.reduceAdd, Nat.reduceEqDiff, Nat.reduceLT, reduceIte, reduceCtorEq, Int.reduceLE, Int.reduceLT, Int.reduceEq, Int.reduceAdd, Int.reduceMul, Int.reduceSub, Nat.reduceMul, Nat.reduceSub, Nat.reducePow, Nat.reduceLeDiff, Int.reduceToNat, DD, h0, h1, h6, h7, h18, h19, d1]
    refine callK_of false nat_at.call (at_nat b hb j) rfl rfl (by simp [ownOK]) (by simp [U32, isD_u32, IsD.v]) ?_
    have hX := Lm_getD ha j
    have hY := Lm_getD hb j
    generalize hXe : a.getD j 0 = X at hX ⊢
    generalize hYe : b.getD j 0 = Y at hY ⊢
    obtain ⟨V, D, c', w1, w2, hD, hc', w3, w4, hdd⟩ := sub_w hX hY hc
    have w5 := incI (j := j) (by omega)
    have d2 : (0 : Int) ≤ (j : Int) := by omega
    have d3 : j < out.length := by omega
    have d4 : j + 1 ≤ out.length := by omega
    have d5 := spl_u32s (l := out) (i := j) (x := (D : Int)) d3 (by omega)
    have d6 : leafA (.v (.int .u32 (D : Int))) = true := rfl
    simp -implicitDefEqProofs only [go_sem, Nat.reduceAdd, Nat.reduceEqDiff, Nat.reduceLT, reduceIte, reduceCtorEq, Int.reduceLE, Int.reduceLT, Int.reduceEq, Int.reduceAdd, Int.reduceMul, Int.reduceSub, Nat.reduceMul, Nat.reduceSub, Nat.reducePow, Nat.reduceLeDiff, Int.reduceToNat, DD, h0, h1, h6, h7, h18, h19, d1, d2, d3, d4, d5, d6, w1, w2, w3, w4, w5, List.all_cons, List.all_nil, Bool.and_true, Bool.and_self, Int.toNat_natCast]
    refine ⟨a.length - (j + 1), by omega, _, out.set j D, c', j + 1, rfl, rfl, by omega, by simp [hlen], Lm_set hLm (by omega), by omega,
      by simp [x_look, h0], by simp [x_look, h1], by simp [x_look, h6], by simp [x_look], by simp [x_look, h18, h19], by simp [x_look], ?_⟩
    rw [nv_set_zero d3, nv_take_succ, nv_take_succ, hXe, hYe]
    exact sub_step j hinv rfl hdd
  · have d1 : ¬ ((j : Int) < (a.length : Int)) := by omega
    have hje : j = a.length := by omega
    subst hje
    simp -implicitDefEqProofs only [go_sem, Nat.reduceAdd, Nat.reduceEqDiff, Nat.reduceLT, reduceIte, reduceCtorEq, Int.reduceLE, Int.reduceLT, Int.reduceEq, Int.reduceAdd, Int.reduceMul, Int.reduceSub, Nat.reduceMul, Nat.reduceSub, Nat.reducePow, Nat.reduceLeDiff, Int.reduceToNat, DD, h0, h1, h6, h7, h18, h19, d1]
    refine callK_u32 nat_cut.call (cut_sat out (by omega)) hlen ?_
    rw [nv_take_all (l := out) (by omega), nv_take_all (l := a) (by omega)] at hinv
    obtain ⟨_, e3⟩ := sub_done rfl hinv (nv_take_div hb _) (nv_lt ha) hle (nv_lt_of hLm (by omega))
    have e4 : cutL out = lim (nv a - nv b) := by rw [cutL_lim hLm, e3]
    simp -implicitDefEqProofs only [go_sem, Nat.reduceAdd, Nat.reduceEqDiff, Nat.reduceLT, reduceIte, reduceCtorEq, Int.reduceLE, Int.reduceLT, Int.reduceEq, Int.reduceAdd, Int.reduceMul, Int.reduceSub, Nat.reduceMul, Nat.reduceSub, Nat.reducePow, Nat.reduceLeDiff, Int.reduceToNat, DD, e4]

theorem sub_no (a b : List Nat) (ha : Lm a) (hb : Lm b) (hla : a.length < 1099511627776) (hlb : b.length < 1099511627776) (hlt : nv a < nv b) : Sat CT false 102 [U32 a, U32 b] (.tup [.sl 0 [], Bo false]) := by
  refine sat_of nat_Sub.ok (by simp) ?_
  have DD := nat_Sub.dr
  simp only [drP, drPx, drPt, drR, drS, drT, bodyOf, Tryd.f102, Nat.reduceEqDiff, reduceIte, true_and, and_true] at DD
  simp -implicitDefEqProofs only [go_sem, Nat.reduceAdd, Nat.reduceEqDiff, Nat.reduceLT, reduceIte, reduceCtorEq, Int.reduceLE, Int.reduceLT, Int.reduceEq, Int.reduceAdd, Int.reduceMul, Int.reduceSub, Nat.reduceMul, Nat.reduceSub, Nat.reducePow, Nat.reduceLeDiff, Int.reduceToNat, Tryd.f102, DD]
  refine callK_of false nat_Cmp.call (cmp_sat a b ha hb hla hlb) rfl rfl (by simp [ownOK]) (by simp [U32, isD_u32, IsD.v]) ?_
  have c0 : (-1 : Int) < 0 := by omega
  rw [cmpN_lt hlt]
  simp -implicitDefEqProofs only [go_sem, Nat.reduceAdd, Nat.reduceEqDiff, Nat.reduceLT, reduceIte, reduceCtorEq, Int.reduceLE, Int.reduceLT, Int.reduceEq, Int.reduceAdd, Int.reduceMul, Int.reduceSub, Nat.reduceMul, Nat.reduceSub, Nat.reducePow, Nat.reduceLeDiff, Int.reduceToNat, DD, c0]

end Go.Ab

set_option linter.unusedVariables false
set_option maxRecDepth 20000
set_option linter.unusedSimpArgs false
namespace Go.Ab
open Go.Proofs

theorem mul_sat (a b : List Nat) (ha : Lm a) (hb : Lm b) (hla : a.length < 1099511627776) (hlb : b.length < 1099511627776) : Sat CT false 100 [U32 a, U32 b] (U32 (lim (nv a * nv b))) := by
  refine sat_of nat_Mul.ok (by simp) ?_
  have DD := nat_Mul.dr
  simp only [drP, drPx, drPt, drR, drS, drT, bodyOf, Tryd.f100, Nat.reduceEqDiff, reduceIte, true_and, and_true] at DD
  simp -implicitDefEqProofs only [go_sem, Nat.reduceAdd, Nat.reduceEqDiff, Nat.reduceLT, reduceIte, reduceCtorEq, Int.reduceLE, Int.reduceLT, Int.reduceEq, Int.reduceAdd, Int.reduceMul, Int.reduceSub, Nat.reduceMul, Nat.reduceSub, Nat.reducePow, Nat.reduceLeDiff, Int.reduceToNat, Tryd.f100, DD]
  refine callK_of false nat_cut.call (cut_sat a (by omega)) rfl rfl (by simp [ownOK]) (by simp [U32, isD_u32, IsD.v]) ?_
  simp -implicitDefEqProofs only [go_sem, Nat.reduceAdd, Nat.reduceEqDiff, Nat.reduceLT, reduceIte, reduceCtorEq, Int.reduceLE, Int.reduceLT, Int.reduceEq, Int.reduceAdd, Int.reduceMul, Int.reduceSub, Nat.reduceMul, Nat.reduceSub, Nat.reducePow, Nat.reduceLeDiff, Int.reduceToNat, DD]
  refine callK_of false nat_cut.call (cut_sat b (by omega)) rfl rfl (by simp [ownOK]) (by simp [U32, isD_u32, IsD.v]) ?_
  have e1 := cutL_length a
  have e2 := cutL_length b
  have f3 := nv_cutL a
  have f4 := nv_cutL b
  have ha := Lm_cutL ha
  have hb := Lm_cutL hb
  rw [← f3, ← f4]
  generalize cutL a = A at *
  generalize cutL b = B at *
  have c1 : IntKind.i64.wrap ((A.length : Int) + (B.length : Int)) = ((A.length + B.length : Nat) : Int) := by rw [wrap_i64 (by omega) (by omega)]; omega
  have c2 : (0 : Int) ≤ ((A.length + B.length : Nat) : Int) := by omega
  simp -implicitDefEqProofs only [go_sem, Nat.reduceAdd, Nat.reduceEqDiff, Nat.reduceLT, reduceIte, reduceCtorEq, Int.reduceLE, Int.reduceLT, Int.reduceEq, Int.reduceAdd, Int.reduceMul, Int.reduceSub, Nat.reduceMul, Nat.reduceSub, Nat.reducePow, Nat.reduceLeDiff, Int.reduceToNat, DD, c1, c2]
  refine ⟨⟨by omega, by omega⟩, ?_⟩
  refine loop_of aW0_mono (fun m σ => ∃ sl out i, σ = ⟨sl, [⟨u32s out, true, true⟩]⟩ ∧ m = A.length - i ∧ i ≤ A.length ∧ out.length = A.length + B.length ∧ Lm out ∧ i ≤ A.length + 7 ∧
      look sl 0 = .sl A.length (u32s A) ∧ look sl 1 = .sl B.length (u32s B) ∧ look sl 5 = .own 1 0 0 (A.length + B.length) ∧ look sl 21 = .sl A.length (u32s A) ∧ look sl 22 = I64 (A.length : Nat) ∧ look sl 23 = I64 (i : Nat) ∧
      nv (out.take (i + B.length)) = nv (A.take i) * nv B) ?_ (n := A.length)
    ⟨_, List.replicate (A.length + B.length) 0, 0, rfl, rfl, by omega, by simp, Lm_rep _, by omega, by simp [x_look], by simp [x_look], by simp [x_look], by simp [x_look], by simp [x_look], by simp [x_look], by rw [List.take_replicate, nv_rep]; simp [nv]⟩
  rintro m _ ⟨sl, out, i, rfl, rfl, hi, hlen, hLm, hz, h0, h1, h5, h21, h22, h23, hinv⟩
  by_cases hlt : i < A.length
  · have d1 : (i : Int) < (A.length : Int) := by omega
    have d2 : (0 : Int) ≤ (i : Int) := by omega
    have d3 := getD_u32s hlt
    simp -implicitDefEqProofs only [go_sem, Nat.reduceAdd, Nat.reduceEqDiff, Nat.reduceLT, reduceIte, reduceCtorEq, Int.reduceLE, Int.reduceLT, Int.reduceEq, Int.reduceAdd, Int.reduceMul, Int.reduceSub, Nat.reduceMul, Nat.reduceSub, Nat.reducePow, Nat.reduceLeDiff, Int.reduceToNat, DD, h0, h1, h5, h21, h22, h23, d1, d2, d3, hlt]
    refine loop_of aW0_mono (fun m σ => ∃ sl out c k, σ = ⟨sl, [⟨u32s out, true, true⟩]⟩ ∧ m = B.length - k ∧ k ≤ B.length ∧ out.length = A.length + B.length ∧ Lm out ∧ c < 4294967296 ∧ i ≤ A.length + 7 ∧
      look sl 0 = .sl A.length (u32s A) ∧ look sl 1 = .sl B.length (u32s B) ∧ look sl 5 = .own 1 0 0 (A.length + B.length) ∧ look sl 21 = .sl A.length (u32s A) ∧ look sl 22 = I64 (A.length : Nat) ∧ look sl 23 = I64 (i : Nat) ∧ look sl 6 = I64 (i : Nat) ∧ look sl 7 = W32 (A.getD i 0 : Nat) ∧ look sl 8 = W64 (c : Nat) ∧ look sl 28 = .sl B.length (u32s B) ∧ look sl 29 = I64 (B.length : Nat) ∧ look sl 30 = I64 (k : Nat) ∧
      nv (out.take (i + B.length)) + 4294967296 ^ (i + k) * c = nv (A.take i) * nv B + 4294967296 ^ i * (A.getD i 0 * nv (B.take k))) ?_ (n := B.length)
      ⟨_, out, 0, 0, rfl, rfl, by omega, hlen, hLm, by omega, hz, by simp [x_look, h0, h1, h5, h21, h22, h23], by simp [x_look, h0, h1, h5, h21, h22, h23], by simp [x_look, h0, h1, h5, h21, h22, h23], by simp [x_look, h0, h1, h5, h21, h22, h23], by simp [x_look, h0, h1, h5, h21, h22, h23], by simp [x_look, h0, h1, h5, h21, h22, h23], by simp [x_look, h0, h1, h5, h21, h22, h23], by simp [x_look, h0, h1, h5, h21, h22, h23], by simp [x_look, h0, h1, h5, h21, h22, h23], by simp [x_look, h0, h1, h5, h21, h22, h23], by simp [x_look, h0, h1, h5, h21, h22, h23], by simp [x_look, h0, h1, h5, h21, h22, h23], by simp [nv, hinv]⟩
    clear h0 h1 h5 h21 h22 h23 hinv hlen hLm hz
    clear out
    rintro m _ ⟨sl, out, c, k, rfl, rfl, hk, hlen, hLm, hc, iz, j0, j1, j5, o21, o22, o23, i6, i7, i8, i28, i29, i30, hinv⟩
    by_cases hlt2 : k < B.length
    · have e1 : (k : Int) < (B.length : Int) := by omega
      have e2 : (0 : Int) ≤ (k : Int) := by omega
      have e3 := getD_u32s hlt2
      have e4 : IntKind.i64.wrap ((i : Int) + (k : Int)) = ((i + k : Nat) : Int) := by rw [wrap_i64 (by omega) (by omega)]; omega
      have e5 : (0 : Int) ≤ ((i + k : Nat) : Int) := by omega
      have e6 : ((i + k : Nat) : Int) < ((A.length + B.length : Nat) : Int) := by omega
      have e6' : i + k < A.length + B.length := by omega
      have e7 := getD_u32s (l := out) (i := i + k) (by omega)
      have e8 : i + k + 1 ≤ out.length := by omega
      have e9 : i + k < out.length := by omega
      have hx := Lm_getD ha i
      have hy := Lm_getD hb k
      have ho := Lm_getD hLm (i + k)
      have hset := fun v => nv_set_take (l := out) (j := i + k) (n := i + B.length) (v := v) (by omega) (by omega)
      have htk := nv_take_succ B k
      generalize A.getD i 0 = x at *
      generalize B.getD k 0 = y at *
      generalize out.getD (i + k) 0 = z at *
      have hm := mul_lt hx hy
      have w0 : ∀ n : Nat, n < 4294967296 → IntKind.u64.wrap (n : Int) = (n : Int) := fun n hn => wrap_u64 (by omega) (by omega)
      have wx := w0 x hx
      have wy := w0 y hy
      have wz := w0 z ho
      have w1 : IntKind.u64.wrap ((x : Int) * (y : Int)) = ((x * y : Nat) : Int) := by rw [wrap_u64 (by omega) (by rw [← Int.natCast_mul]; omega), Int.natCast_mul]
      have w2 : IntKind.u64.wrap ((z : Int) + ((x * y : Nat) : Int)) = ((z + x * y : Nat) : Int) := by rw [wrap_u64 (by omega) (by omega)]; omega
      have w3 : IntKind.u64.wrap ((c : Int) + ((z + x * y : Nat) : Int)) = ((c + z + x * y : Nat) : Int) := by rw [wrap_u64 (by omega) (by omega)]; omega
      have hsp := limb_split (c + z + x * y)
      have w4 := wrap32n (c + z + x * y)
      have w5 := fdiv32 (c + z + x * y)
      have w6 := incI (j := k) (by omega)
      have hlo : (c + z + x * y) % 4294967296 < 4294967296 := Nat.mod_lt _ (by omega)
      have hhi : (c + z + x * y) / 4294967296 < 4294967296 := by omega
      generalize (c + z + x * y) % 4294967296 = lo at *
      generalize (c + z + x * y) / 4294967296 = hi2 at *
      have d5 := spl_u32s (l := out) (i := i + k) (x := (lo : Int)) e9 (by omega)
      have d6 : leafA (.v (.int .u32 (lo : Int))) = true := rfl
      simp -implicitDefEqProofs only [go_sem, Nat.reduceAdd, Nat.reduceEqDiff, Nat.reduceLT, reduceIte, reduceCtorEq, Int.reduceLE, Int.reduceLT, Int.reduceEq, Int.reduceAdd, Int.reduceMul, Int.reduceSub, Nat.reduceMul, Nat.reduceSub, Nat.reducePow, Nat.reduceLeDiff, Int.reduceToNat, DD, j0, j1, j5, o21, o22, o23, i6, i7, i8, i28, i29, i30, d1, d2, d3, hlt, hlt2, e1, e2, e3, e4, e5, e6, e6', e7, e8, e9, wx, wy, wz, w1, w2, w3, w4, w5, w6, d5, d6, List.all_cons, List.all_nil, Bool.and_true, Bool.and_self, Int.toNat_natCast]
      refine ⟨B.length - (k + 1), by omega, _, out.set (i + k) lo, hi2, k + 1, rfl, rfl, by omega, by simp [hlen], Lm_set hLm (by omega), by omega, by omega,
        by simp [x_look, j0, j1, j5, o21, o22, o23, i6, i7, i8, i28, i29, i30], by simp [x_look, j0, j1, j5, o21, o22, o23, i6, i7, i8, i28, i29, i30], by simp [x_look, j0, j1, j5, o21, o22, o23, i6, i7, i8, i28, i29, i30], by simp [x_look, j0, j1, j5, o21, o22, o23, i6, i7, i8, i28, i29, i30], by simp [x_look, j0, j1, j5, o21, o22, o23, i6, i7, i8, i28, i29, i30], by simp [x_look, j0, j1, j5, o21, o22, o23, i6, i7, i8, i28, i29, i30], by simp [x_look, j0, j1, j5, i6, i7, i8, i28, i29, i30], by simp [x_look, j0, j1, j5, i6, i7, i8, i28, i29, i30], by simp [x_look, j0, j1, j5, i6, i7, i8, i28, i29, i30], by simp [x_look, j0, j1, j5, i6, i7, i8, i28, i29, i30], by simp [x_look, j0, j1, j5, i6, i7, i8, i28, i29, i30], by simp [x_look, j0, j1, j5, i6, i7, i8, i28, i29, i30], ?_⟩
      rw [htk]
      exact mul_step (a := 0) hinv (hset lo) hsp
    · have e1 : ¬ ((k : Int) < (B.length : Int)) := by omega
      have hke : k = B.length := by omega
      subst hke
      have e4 : IntKind.i64.wrap ((i : Int) + (B.length : Int)) = ((i + B.length : Nat) : Int) := by rw [wrap_i64 (by omega) (by omega)]; omega
      have e5 : (0 : Int) ≤ ((i + B.length : Nat) : Int) := by omega
      have e6 : ((i + B.length : Nat) : Int) < ((A.length + B.length : Nat) : Int) := by omega
      have e6' : i + B.length < A.length + B.length := by omega
      have e8 : i + B.length + 1 ≤ out.length := by omega
      have e9 : i + B.length < out.length := by omega
      have w4 : IntKind.u32.wrap (c : Int) = (c : Int) := by rw [wrap_u32]; omega
      have w6 := incI (j := i) (by omega)
      have d5 := spl_u32s (l := out) (i := i + B.length) (x := (c : Int)) e9 (by omega)
      have d6 : leafA (.v (.int .u32 (c : Int))) = true := rfl
      simp -implicitDefEqProofs only [go_sem, Nat.reduceAdd, Nat.reduceEqDiff, Nat.reduceLT, reduceIte, reduceCtorEq, Int.reduceLE, Int.reduceLT, Int.reduceEq, Int.reduceAdd, Int.reduceMul, Int.reduceSub, Nat.reduceMul, Nat.reduceSub, Nat.reducePow, Nat.reduceLeDiff, Int.reduceToNat, DD, j0, j1, j5, o21, o22, o23, i6, i7, i8, i28, i29, i30, d1, d2, d3, hlt, e1, e4, e5, e6, e6', e8, e9, w4, w6, d5, d6, List.all_cons, List.all_nil, Bool.and_true, Bool.and_self, Int.toNat_natCast]
      refine ⟨A.length - (i + 1), by omega, _, out.set (i + B.length) c, i + 1, rfl, rfl, by omega, by simp [hlen], Lm_set hLm (by omega), by omega,
        by simp [x_look, j0, j1, j5, o21, o22, o23, i6, i7, i8, i28, i29, i30], by simp [x_look, j0, j1, j5, o21, o22, o23, i6, i7, i8, i28, i29, i30], by simp [x_look, j0, j1, j5, o21, o22, o23, i6, i7, i8, i28, i29, i30], by simp [x_look, j0, j1, j5, o21, o22, o23, i6, i7, i8, i28, i29, i30], by simp [x_look, j0, j1, j5, o21, o22, o23, i6, i7, i8, i28, i29, i30], by simp [x_look, j0, j1, j5, o21, o22, o23, i6, i7, i8, i28, i29, i30], ?_⟩
      rw [show i + 1 + B.length = i + B.length + 1 by omega, nv_set_zero e9, hinv, nv_take_all (l := B) (Nat.le_refl _), nv_take_succ, Nat.add_mul, Nat.mul_assoc]
  · have d1 : ¬ ((i : Int) < (A.length : Int)) := by omega
    have hie : i = A.length := by omega
    subst hie
    simp -implicitDefEqProofs only [go_sem, Nat.reduceAdd, Nat.reduceEqDiff, Nat.reduceLT, reduceIte, reduceCtorEq, Int.reduceLE, Int.reduceLT, Int.reduceEq, Int.reduceAdd, Int.reduceMul, Int.reduceSub, Nat.reduceMul, Nat.reduceSub, Nat.reducePow, Nat.reduceLeDiff, Int.reduceToNat, DD, h0, h1, h5, h21, h22, h23, d1]
    refine callK_u32 nat_cut.call (cut_sat out (by omega)) hlen ?_
    rw [nv_take_all (l := A) (Nat.le_refl _)] at hinv
    rw [nv_take_all (l := out) (by omega)] at hinv
    have e4 : cutL out = lim (nv A * nv B) := by rw [cutL_lim hLm, hinv]
    simp -implicitDefEqProofs only [go_sem, Nat.reduceAdd, Nat.reduceEqDiff, Nat.reduceLT, reduceIte, reduceCtorEq, Int.reduceLE, Int.reduceLT, Int.reduceEq, Int.reduceAdd, Int.reduceMul, Int.reduceSub, Nat.reduceMul, Nat.reduceSub, Nat.reducePow, Nat.reduceLeDiff, Int.reduceToNat, DD, e4]

end Go.Ab

set_option linter.unusedVariables false
set_option maxRecDepth 20000
set_option linter.unusedSimpArgs false
namespace Go.Ab
open Go.Proofs

theorem at_prv (l : List Nat) (hm : Lm l) (i : Nat) : Sat CT false 109 [U32 l, I64 ((i : Int) - 1)] (W64 (prv l i : Nat)) := by
  unfold prv
  split
  · rename_i h; subst h; exact at_neg l _ (by omega)
  · have e : (i : Int) - 1 = ((i - 1 : Nat) : Int) := by omega
    rw [e]; exact at_nat l hm (i - 1)

theorem held_sat (n : Int) : Sat CT false 107 [I64 n] (I64 (shN n : Nat)) := by
  refine sat_of nat_held.ok (by simp) ?_
  have e : min (max n 0) 100000 = ((shN n : Nat) : Int) := by unfold shN; omega
  simp -implicitDefEqProofs only [go_sem, Nat.reduceAdd, Nat.reduceEqDiff, Nat.reduceLT, reduceIte, reduceCtorEq, Int.reduceLE, Int.reduceLT, Int.reduceEq, Int.reduceAdd, Int.reduceMul, Int.reduceSub, Nat.reduceMul, Nat.reduceSub, Nat.reducePow, Nat.reduceLeDiff, Int.reduceToNat, and_true, Tryd.f107, e, isD_v]

theorem nv_nil_of {l : List Nat} (h : l.length = 0) : nv l = 0 := by rw [List.length_eq_zero_iff] at h; rw [h]; rfl
theorem lim_of_zero {x : Nat} (h : x = 0) : lim x = [] := by rw [h]; exact lim_zero

theorem up_int (a : List Nat) (n0 : Int) (n : Nat) (hn0 : max n0 0 = (n : Int)) (ha : Lm a) (hla : a.length < 1099511627776) (hn : n ≤ 100000) : Sat CT false 103 [U32 a, I64 n0] (U32 (lim (nv a * 2 ^ n))) := by
  refine sat_of nat_Up.ok (by simp) ?_
  have DD := nat_Up.dr
  simp only [drP, drPx, drPt, drR, drS, drT, bodyOf, Tryd.f103, Nat.reduceEqDiff, reduceIte, true_and, and_true] at DD
  obtain ⟨q, r, hr, hqr, ht1, ht2⟩ : ∃ q r : Nat, r < 32 ∧ n = 32 * q + r ∧ IntKind.i64.wrap ((n : Int).tdiv 32) = (q : Int) ∧ (n : Int).tmod 32 = (r : Int) := by
    refine ⟨n / 32, n % 32, by omega, by omega, ?_, ?_⟩
    · rw [Int.tdiv_eq_ediv_of_nonneg (by omega), wrap_i64 (by omega) (by omega)]; omega
    · rw [Int.tmod_eq_emod_of_nonneg (by omega)]; omega
  simp -implicitDefEqProofs only [go_sem, Nat.reduceAdd, Nat.reduceEqDiff, Nat.reduceLT, reduceIte, reduceCtorEq, Int.reduceLE, Int.reduceLT, Int.reduceEq, Int.reduceAdd, Int.reduceMul, Int.reduceSub, Nat.reduceMul, Nat.reduceSub, Nat.reducePow, Nat.reduceLeDiff, Int.reduceToNat, Tryd.f103, DD]
  refine callK_of false nat_cut.call (cut_sat a (by omega)) rfl rfl (by simp [ownOK]) (by simp [U32, isD_u32, IsD.v]) ?_
  have e1 := cutL_length a
  have f3 := nv_cutL a
  have ha := Lm_cutL ha
  rw [← f3]
  skip
  generalize cutL a = A at *
  by_cases hA : A.length = 0
  · have c1 : (A.length : Int) = 0 := by omega
    have c2 : lim (nv A * 2 ^ n) = [] := lim_of_zero (by rw [nv_nil_of hA, Nat.zero_mul])
    simp -implicitDefEqProofs only [go_sem, Nat.reduceAdd, Nat.reduceEqDiff, Nat.reduceLT, reduceIte, reduceCtorEq, Int.reduceLE, Int.reduceLT, Int.reduceEq, Int.reduceAdd, Int.reduceMul, Int.reduceSub, Nat.reduceMul, Nat.reduceSub, Nat.reducePow, Nat.reduceLeDiff, Int.reduceToNat, DD, c1, c2]
    rfl
  · have c1 : ¬ ((A.length : Int) = 0) := by omega
    have c2 := hn0
    have c3 : IntKind.i64.wrap ((A.length : Int) + (q : Int)) = ((A.length + q : Nat) : Int) := by rw [wrap_i64 (by omega) (by omega)]; omega
    have c4 := incI (j := A.length + q) (by omega)
    have c5 : (0 : Int) ≤ ((A.length + q + 1 : Nat) : Int) := by omega
    have c6 : (0 : Int) ≤ (q : Int) := by omega
    have c7 : (q : Int) ≤ ((A.length + q + 1 : Nat) : Int) := by omega
    have c8 : A.length + q + 1 - q = A.length + 1 := by omega
    simp -implicitDefEqProofs only [go_sem, Nat.reduceAdd, Nat.reduceEqDiff, Nat.reduceLT, reduceIte, reduceCtorEq, Int.reduceLE, Int.reduceLT, Int.reduceEq, Int.reduceAdd, Int.reduceMul, Int.reduceSub, Nat.reduceMul, Nat.reduceSub, Nat.reducePow, Nat.reduceLeDiff, Int.reduceToNat, DD, c1, c2, c3, c4, c5, c6, c7, c8, ht1, ht2]
    refine ⟨⟨by omega, by omega⟩, ?_⟩
    refine loop_of aW0_mono (fun m σ => ∃ sl out i, σ = ⟨sl, [⟨u32s out, true, true⟩]⟩ ∧ m = A.length + 1 - i ∧ i ≤ A.length + 1 ∧ out.length = A.length + q + 1 ∧ Lm out ∧
      look sl 0 = .sl A.length (u32s A) ∧ look sl 5 = I64 (q : Nat) ∧ look sl 6 = I64 (r : Nat) ∧ look sl 7 = .own 1 0 0 (A.length + q + 1) ∧ look sl 29 = I64 ((A.length + 1 : Nat) : Int) ∧ look sl 30 = I64 (i : Nat) ∧
      nv (out.take (q + i)) + 4294967296 ^ (q + i) * cry A r i = 4294967296 ^ q * (2 ^ r * nv (A.take i))) ?_ (n := A.length + 1)
      ⟨_, List.replicate (A.length + q + 1) 0, 0, rfl, rfl, by omega, by simp, Lm_rep _, by simp [x_look], by simp [x_look], by simp [x_look], by simp [x_look], by simp [x_look], by simp [x_look], by rw [List.take_replicate, nv_rep]; simp [nv, cry, prv]⟩
    rintro m _ ⟨sl, out, i, rfl, rfl, hi, hlen, hLm, h0, h5, h6, h7, h29, h30, hinv⟩
    by_cases hlt : i < A.length + 1
    · have d1 : (i : Int) < ((A.length + 1 : Nat) : Int) := by omega
      have d2 : IntKind.i64.wrap ((q : Int) + (i : Int)) = ((q + i : Nat) : Int) := by rw [wrap_i64 (by omega) (by omega)]; omega
      have d3 : IntKind.i64.wrap ((i : Int) - 1) = (i : Int) - 1 := wrap_i64 (by omega) (by omega)
      simp -implicitDefEqProofs only [go_sem, Nat.reduceAdd, Nat.reduceEqDiff, Nat.reduceLT, reduceIte, reduceCtorEq, Int.reduceLE, Int.reduceLT, Int.reduceEq, Int.reduceAdd, Int.reduceMul, Int.reduceSub, Nat.reduceMul, Nat.reduceSub, Nat.reducePow, Nat.reduceLeDiff, Int.reduceToNat, DD, h0, h5, h6, h7, h29, h30, d1, d2, d3]
      refine callK_of false nat_at.call (at_nat A ha i) rfl rfl (by simp [ownOK]) (by simp [U32, isD_u32, IsD.v]) ?_
      have g1 : (0 : Int) ≤ (r : Int) := by omega
      have g2 : min r 64 = r := by omega
      have hX := Lm_getD ha i
      have hY := prv_lt ha i
      have sX := sh_mul_lt hX hr
      have sY := sh_mul_lt hY hr
      have hcy := cry_lt ha r i
      have hcd : prv A i * 2 ^ r / 4294967296 = cry A r i := rfl
      have hup := up_step (o := nv (out.take (q + i))) (q := q) ha hr hinv
      have hor := sh_or (X := A.getD i 0) hcy
      have hp := (pow_r_lt hr).1
      have w1 : IntKind.u64.wrap ((A.getD i 0 : Nat) * (2 : Int) ^ r) = ((A.getD i 0 * 2 ^ r : Nat) : Int) := by rw [show ((A.getD i 0 : Nat) : Int) * (2 : Int) ^ r = ((A.getD i 0 * 2 ^ r : Nat) : Int) by simp]; exact wrap64n (by omega)
      have w2 : IntKind.u64.wrap ((prv A i : Nat) * (2 : Int) ^ r) = ((prv A i * 2 ^ r : Nat) : Int) := by rw [show ((prv A i : Nat) : Int) * (2 : Int) ^ r = ((prv A i * 2 ^ r : Nat) : Int) by simp]; exact wrap64n (by omega)
      have w3 := fdiv32 (prv A i * 2 ^ r)
      rw [hcd] at w3
      have w4 := or64 (a := A.getD i 0 * 2 ^ r) (b := cry A r i) (by omega) (by omega)
      rw [hor] at w4
      have w5 := wrap32n (A.getD i 0 * 2 ^ r + cry A r i)
      have hlo : (A.getD i 0 * 2 ^ r + cry A r i) % 4294967296 < 4294967296 := Nat.mod_lt _ (by omega)
      generalize (A.getD i 0 * 2 ^ r + cry A r i) % 4294967296 = lo at *
      have w6 := incI (j := i) (by omega)
      have e3 : (0 : Int) ≤ ((q + i : Nat) : Int) := by omega
      have e4 : ((q + i : Nat) : Int) < ((A.length + q + 1 : Nat) : Int) := by omega
      have e5 : q + i < A.length + q + 1 := by omega
      have e6 : q + i < out.length := by omega
      have e7 : q + i + 1 ≤ out.length := by omega
      have d5 := spl_u32s (l := out) (i := q + i) (x := (lo : Int)) e6 (by omega)
      have d6 : leafA (.v (.int .u32 (lo : Int))) = true := rfl
      simp -implicitDefEqProofs only [go_sem, Nat.reduceAdd, Nat.reduceEqDiff, Nat.reduceLT, reduceIte, reduceCtorEq, Int.reduceLE, Int.reduceLT, Int.reduceEq, Int.reduceAdd, Int.reduceMul, Int.reduceSub, Nat.reduceMul, Nat.reduceSub, Nat.reducePow, Nat.reduceLeDiff, Int.reduceToNat, DD, h0, h5, h6, h7, h29, h30, d1, d2, d3, w1, g1, g2]
      refine callK_of false nat_at.call (at_prv A ha i) rfl rfl (by simp [ownOK]) (by simp [U32, isD_u32, IsD.v]) ?_
      simp -implicitDefEqProofs only [go_sem, Nat.reduceAdd, Nat.reduceEqDiff, Nat.reduceLT, reduceIte, reduceCtorEq, Int.reduceLE, Int.reduceLT, Int.reduceEq, Int.reduceAdd, Int.reduceMul, Int.reduceSub, Nat.reduceMul, Nat.reduceSub, Nat.reducePow, Nat.reduceLeDiff, Int.reduceToNat, DD, h0, h5, h6, h7, h29, h30, d1, d2, d3, w1, w2, w3, w4, w5, w6, g1, g2, e3, e4, e5, e6, e7, d5, d6, List.all_cons, List.all_nil, Bool.and_true, Bool.and_self, Int.toNat_natCast]
      refine ⟨A.length + 1 - (i + 1), by omega, _, out.set (q + i) lo, i + 1, rfl, rfl, by omega, by simp [hlen], Lm_set hLm (by omega), by simp [x_look, h0], by simp [x_look, h5], by simp [x_look, h6], by simp [x_look, h7], by simp [x_look, h29], by simp [x_look], ?_⟩
      rw [show q + (i + 1) = q + i + 1 by omega, nv_set_zero e6]
      exact hup
    · have d1 : ¬ ((i : Int) < ((A.length + 1 : Nat) : Int)) := by omega
      have hie : i = A.length + 1 := by omega
      subst hie
      simp -implicitDefEqProofs only [go_sem, Nat.reduceAdd, Nat.reduceEqDiff, Nat.reduceLT, reduceIte, reduceCtorEq, Int.reduceLE, Int.reduceLT, Int.reduceEq, Int.reduceAdd, Int.reduceMul, Int.reduceSub, Nat.reduceMul, Nat.reduceSub, Nat.reducePow, Nat.reduceLeDiff, Int.reduceToNat, DD, h0, h5, h6, h7, h29, h30, d1]
      have hz : cry A r (A.length + 1) = 0 := by simp [cry, prv_succ, List.getD_eq_getElem?_getD]
      rw [nv_take_all (l := A) (by omega), hz, nv_take_all (l := out) (by omega), up_done, ← hqr, Nat.mul_zero, Nat.add_zero] at hinv
      have e4 : cutL out = lim (nv A * 2 ^ n) := by rw [cutL_lim hLm, hinv]
      refine callK_u32 nat_cut.call (cut_sat out (by omega)) hlen ?_
      simp -implicitDefEqProofs only [go_sem, Nat.reduceAdd, Nat.reduceEqDiff, Nat.reduceLT, reduceIte, reduceCtorEq, Int.reduceLE, Int.reduceLT, Int.reduceEq, Int.reduceAdd, Int.reduceMul, Int.reduceSub, Nat.reduceMul, Nat.reduceSub, Nat.reducePow, Nat.reduceLeDiff, Int.reduceToNat, DD, e4]

theorem up_sat (a : List Nat) (n : Nat) (ha : Lm a) (hla : a.length < 1099511627776) (hn : n ≤ 100000) : Sat CT false 103 [U32 a, I64 (n : Nat)] (U32 (lim (nv a * 2 ^ n))) := up_int a (n : Nat) n (by omega) ha hla hn
theorem shl_sat (a : List Nat) (n : Int) (ha : Lm a) (hla : a.length < 1099511627776) : Sat CT false 96 [U32 a, I64 n] (U32 (lim (nv a * 2 ^ shN n))) := by
  refine sat_of nat_Shl.ok (by simp) ?_
  simp -implicitDefEqProofs only [go_sem, Nat.reduceAdd, Nat.reduceEqDiff, Nat.reduceLT, reduceIte, reduceCtorEq, Int.reduceLE, Int.reduceLT, Int.reduceEq, Int.reduceAdd, Int.reduceMul, Int.reduceSub, Nat.reduceMul, Nat.reduceSub, Nat.reducePow, Nat.reduceLeDiff, Int.reduceToNat, and_true, Tryd.f96]
  refine callK_of false nat_held.call (held_sat n) rfl rfl (by simp [ownOK]) (by simp [U32, isD_u32, IsD.v]) ?_
  simp -implicitDefEqProofs only [go_sem, Nat.reduceAdd, Nat.reduceEqDiff, Nat.reduceLT, reduceIte, reduceCtorEq, Int.reduceLE, Int.reduceLT, Int.reduceEq, Int.reduceAdd, Int.reduceMul, Int.reduceSub, Nat.reduceMul, Nat.reduceSub, Nat.reducePow, Nat.reduceLeDiff, Int.reduceToNat, and_true]
  refine callK_of false nat_Up.call (up_sat a (shN n) ha hla (shN_le n)) rfl rfl (by simp [ownOK]) (by simp [U32, isD_u32, IsD.v]) ?_
  simp -implicitDefEqProofs only [go_sem, Nat.reduceAdd, Nat.reduceEqDiff, Nat.reduceLT, reduceIte, reduceCtorEq, Int.reduceLE, Int.reduceLT, Int.reduceEq, Int.reduceAdd, Int.reduceMul, Int.reduceSub, Nat.reduceMul, Nat.reduceSub, Nat.reducePow, Nat.reduceLeDiff, Int.reduceToNat, and_true]
end Go.Ab

set_option linter.unusedVariables false
set_option maxRecDepth 20000
set_option linter.unusedSimpArgs false
namespace Go.Ab
open Go.Proofs

theorem down_sat (a : List Nat) (n : Nat) (ha : Lm a) (hla : a.length < 1099511627776) (hn : n ≤ 100000) : Sat CT false 99 [U32 a, I64 (n : Nat)] (U32 (lim (nv a / 2 ^ n))) := by
  refine sat_of nat_Downwards.ok (by simp) ?_
  have DD := nat_Downwards.dr
  simp only [drP, drPx, drPt, drR, drS, drT, bodyOf, Tryd.f99, Nat.reduceEqDiff, reduceIte, true_and, and_true] at DD
  obtain ⟨q, r, hr, hqr, ht1, ht2⟩ : ∃ q r : Nat, r < 32 ∧ n = 32 * q + r ∧ IntKind.i64.wrap ((n : Int).tdiv 32) = (q : Int) ∧ (n : Int).tmod 32 = (r : Int) := by
    refine ⟨n / 32, n % 32, by omega, by omega, ?_, ?_⟩
    · rw [Int.tdiv_eq_ediv_of_nonneg (by omega), wrap_i64 (by omega) (by omega)]; omega
    · rw [Int.tmod_eq_emod_of_nonneg (by omega)]; omega
  simp -implicitDefEqProofs only [go_sem, Nat.reduceAdd, Nat.reduceEqDiff, Nat.reduceLT, reduceIte, reduceCtorEq, Int.reduceLE, Int.reduceLT, Int.reduceEq, Int.reduceAdd, Int.reduceMul, Int.reduceSub, Nat.reduceMul, Nat.reduceSub, Nat.reducePow, Nat.reduceLeDiff, Int.reduceToNat, Tryd.f99, DD]
  refine callK_of false nat_cut.call (cut_sat a (by omega)) rfl rfl (by simp [ownOK]) (by simp [U32, isD_u32, IsD.v]) ?_
  have e1 := cutL_length a
  have f3 := nv_cutL a
  have ha := Lm_cutL ha
  rw [← f3]
  generalize cutL a = A at *
  have c2 : max (n : Int) 0 = (n : Int) := by omega
  have g1 : (0 : Int) ≤ (r : Int) := by omega
  have g2 : min r 64 = r := by omega
  have g3 : IntKind.u64.wrap (r : Int) = (r : Int) := wrap64n (by omega)
  by_cases hA : A.length ≤ q
  · have c1 : (A.length : Int) ≤ (q : Int) := by omega
    have hz : lim (nv A / 2 ^ n) = [] := lim_of_zero (by
      have := down_lt (L := 0) (r := r) ha (q := q) (by omega)
      rw [← hqr] at this
      exact Nat.lt_one_iff.mp this)
    simp -implicitDefEqProofs only [go_sem, Nat.reduceAdd, Nat.reduceEqDiff, Nat.reduceLT, reduceIte, reduceCtorEq, Int.reduceLE, Int.reduceLT, Int.reduceEq, Int.reduceAdd, Int.reduceMul, Int.reduceSub, Nat.reduceMul, Nat.reduceSub, Nat.reducePow, Nat.reduceLeDiff, Int.reduceToNat, DD, c1, c2, ht1, ht2, hz]
    rfl
  · have c1 : ¬ (A.length : Int) ≤ (q : Int) := by omega
    have c3 : IntKind.i64.wrap ((A.length : Int) - (q : Int)) = ((A.length - q : Nat) : Int) := by rw [wrap_i64 (by omega) (by omega)]; omega
    have c4 : (0 : Int) ≤ ((A.length - q : Nat) : Int) := by omega
    have c5 : (0 : Int) ≤ (q : Int) := by omega
    have c6 : (q : Int) ≤ (A.length : Int) := by omega
    have c7 : (u32s (A.drop q)).take (A.length - q) = u32s (A.drop q) := by rw [List.take_of_length_le]; simp
    have c8 : (A.drop q).take (A.length - q) = A.drop q := by rw [List.take_of_length_le]; simp
    simp -implicitDefEqProofs only [go_sem, Nat.reduceAdd, Nat.reduceEqDiff, Nat.reduceLT, reduceIte, reduceCtorEq, Int.reduceLE, Int.reduceLT, Int.reduceEq, Int.reduceAdd, Int.reduceMul, Int.reduceSub, Nat.reduceMul, Nat.reduceSub, Nat.reducePow, Nat.reduceLeDiff, Int.reduceToNat, DD, c1, c2, c3, c4, c5, c6, c7, c8, ht1, ht2]
    refine ⟨⟨by omega, by omega⟩, ?_⟩
    refine loop_of aW0_mono (fun m σ => ∃ sl out i, σ = ⟨sl, [⟨u32s out, true, true⟩]⟩ ∧ m = A.length - q - i ∧ i ≤ A.length - q ∧ out.length = A.length - q ∧ Lm out ∧
      look sl 0 = .sl A.length (u32s A) ∧ look sl 5 = I64 (q : Nat) ∧ look sl 6 = I64 (r : Nat) ∧ look sl 7 = .own 1 0 0 (A.length - q) ∧ look sl 27 = I64 ((A.length - q : Nat) : Int) ∧ look sl 28 = I64 (i : Nat) ∧
      nv (out.take i) = nv A / 2 ^ n % 4294967296 ^ i) ?_ (n := A.length - q)
      ⟨_, List.replicate (A.length - q) 0, 0, rfl, rfl, by omega, by simp, Lm_rep _, by simp [x_look], by simp [x_look], by simp [x_look], by simp [x_look], by simp [x_look], by simp [x_look], by simp [nv, Nat.mod_one]⟩
    rintro m _ ⟨sl, out, i, rfl, rfl, hi, hlen, hLm, h0, h5, h6, h7, h27, h28, hinv⟩
    by_cases hlt : i < A.length - q
    · have d1 : (i : Int) < ((A.length - q : Nat) : Int) := by omega
      have d2 : IntKind.i64.wrap ((q : Int) + (i : Int)) = ((q + i : Nat) : Int) := by rw [wrap_i64 (by omega) (by omega)]; omega
      have d3 := incI (j := q + i) (by omega)
      have w6 := incI (j := i) (by omega)
      have hdd : (A.drop q).length = A.length - q := by simp
      simp -implicitDefEqProofs only [go_sem, Nat.reduceAdd, Nat.reduceEqDiff, Nat.reduceLT, reduceIte, reduceCtorEq, Int.reduceLE, Int.reduceLT, Int.reduceEq, Int.reduceAdd, Int.reduceMul, Int.reduceSub, Nat.reduceMul, Nat.reduceSub, Nat.reducePow, Nat.reduceLeDiff, Int.reduceToNat, DD, h0, h5, h6, h7, h27, h28, d1, d2, d3, w6, ht1, ht2, hdd]
      refine callK_of false nat_at.call (at_nat A ha (q + i)) rfl rfl (by simp [ownOK]) (by simp [U32, isD_u32, IsD.v]) ?_
      simp -implicitDefEqProofs only [go_sem, Nat.reduceAdd, Nat.reduceEqDiff, Nat.reduceLT, reduceIte, reduceCtorEq, Int.reduceLE, Int.reduceLT, Int.reduceEq, Int.reduceAdd, Int.reduceMul, Int.reduceSub, Nat.reduceMul, Nat.reduceSub, Nat.reducePow, Nat.reduceLeDiff, Int.reduceToNat, DD, h0, h5, h6, h7, h27, h28, d1, d2, d3, w6, ht1, ht2, hdd]
      refine callK_of false nat_at.call (at_nat A ha (q + i + 1)) rfl rfl (by simp [ownOK]) (by simp [U32, isD_u32, IsD.v]) ?_
      skip
      have hX := Lm_getD ha (q + i)
      have hY := Lm_getD ha (q + i + 1)
      have hlimb := down_limb ha hr q i
      rw [← hqr] at hlimb
      have w1 : IntKind.u64.wrap ((A.getD (q + i + 1) 0 : Nat) * (2 : Int) ^ 32) = ((4294967296 * A.getD (q + i + 1) 0 : Nat) : Int) := by
        rw [show ((A.getD (q + i + 1) 0 : Nat) : Int) * (2 : Int) ^ 32 = ((4294967296 * A.getD (q + i + 1) 0 : Nat) : Int) by omega]; exact wrap64n (by omega)
      have w2 := or64 (a := A.getD (q + i) 0) (b := 4294967296 * A.getD (q + i + 1) 0) (by omega) (by omega)
      have w3 := or_hi (y := A.getD (q + i + 1) 0) hX
      rw [w3] at w2
      generalize A.getD (q + i) 0 + 4294967296 * A.getD (q + i + 1) 0 = v at *
      have w4 : ((v : Int)).fdiv (2 ^ r) = ((v / 2 ^ r : Nat) : Int) := by
        rw [Int.fdiv_eq_ediv_of_nonneg _ (Int.pow_nonneg (by decide))]; simp
      have w5 := wrap32n (v / 2 ^ r)
      have hlo : v / 2 ^ r % 4294967296 < 4294967296 := Nat.mod_lt _ (by omega)
      generalize v / 2 ^ r % 4294967296 = lo at *
      have e3 : (0 : Int) ≤ (i : Int) := by omega
      have e5 : i < A.length - q := by omega
      have e6 : i < out.length := by omega
      have e7 : i + 1 ≤ out.length := by omega
      have d5 := spl_u32s (l := out) (i := i) (x := (lo : Int)) e6 (by omega)
      have d6 : leafA (.v (.int .u32 (lo : Int))) = true := rfl
      simp -implicitDefEqProofs only [go_sem, Nat.reduceAdd, Nat.reduceEqDiff, Nat.reduceLT, reduceIte, reduceCtorEq, Int.reduceLE, Int.reduceLT, Int.reduceEq, Int.reduceAdd, Int.reduceMul, Int.reduceSub, Nat.reduceMul, Nat.reduceSub, Nat.reducePow, Nat.reduceLeDiff, Int.reduceToNat, DD, h0, h5, h6, h7, h27, h28, d1, d2, d3, hdd, w1, w2, w3, w4, w5, w6, g1, g2, g3, ht1, ht2, e3, e5, e6, e7, d5, d6, List.all_cons, List.all_nil, Bool.and_true, Bool.and_self, Int.toNat_natCast]
      refine ⟨A.length - q - (i + 1), by omega, _, out.set i lo, i + 1, rfl, rfl, by omega, by simp [hlen], Lm_set hLm (by omega), by simp [x_look, h0, h5, h6, h7, h27, h28], by simp [x_look, h0, h5, h6, h7, h27, h28], by simp [x_look, h0, h5, h6, h7, h27, h28], by simp [x_look, h0, h5, h6, h7, h27, h28], by simp [x_look, h0, h5, h6, h7, h27, h28], by simp [x_look, h0, h5, h6, h7, h27, h28], ?_⟩
      rw [nv_set_zero e6, hinv, mod_pow_succ, hlimb]
    · have d1 : ¬ ((i : Int) < ((A.length - q : Nat) : Int)) := by omega
      have hie : i = A.length - q := by omega
      subst hie
      have hdd : (A.drop q).length = A.length - q := by simp
      simp -implicitDefEqProofs only [go_sem, Nat.reduceAdd, Nat.reduceEqDiff, Nat.reduceLT, reduceIte, reduceCtorEq, Int.reduceLE, Int.reduceLT, Int.reduceEq, Int.reduceAdd, Int.reduceMul, Int.reduceSub, Nat.reduceMul, Nat.reduceSub, Nat.reducePow, Nat.reduceLeDiff, Int.reduceToNat, DD, h0, h5, h6, h7, h27, h28, d1, hdd]
      have hm := down_lt (L := A.length - q) (r := r) ha (q := q) (by omega)
      rw [← hqr] at hm
      rw [nv_take_all (l := out) (by omega), Nat.mod_eq_of_lt hm] at hinv
      have e4 : cutL out = lim (nv A / 2 ^ n) := by rw [cutL_lim hLm, hinv]
      refine callK_u32 nat_cut.call (cut_sat out (by omega)) hlen ?_
      simp -implicitDefEqProofs only [go_sem, Nat.reduceAdd, Nat.reduceEqDiff, Nat.reduceLT, reduceIte, reduceCtorEq, Int.reduceLE, Int.reduceLT, Int.reduceEq, Int.reduceAdd, Int.reduceMul, Int.reduceSub, Nat.reduceMul, Nat.reduceSub, Nat.reducePow, Nat.reduceLeDiff, Int.reduceToNat, DD, e4]

theorem rshr_sat (A : List Nat) (n0 : Int) (ha : Lm A) (hla : A.length < 1099511627776) : Sat CT false 67 [U32 A, I64 n0] (U32 (lim (nv A / 2 ^ shN n0))) := by
  refine sat_of annulusref1_Shr.ok (by simp) ?_
  have DD := annulusref1_Shr.dr
  simp only [drP, drPx, drPt, drR, drS, drT, bodyOf, Tryd.f67, Nat.reduceEqDiff, reduceIte, true_and, and_true] at DD
  obtain ⟨n, hn, hnN, hnI⟩ : ∃ n : Nat, n ≤ 100000 ∧ shN n0 = n ∧ min (max n0 0) 100000 = (n : Int) := ⟨shN n0, shN_le n0, rfl, by unfold shN; omega⟩
  rw [hnN]
  obtain ⟨q, r, hr, hqr, ht1, ht2⟩ : ∃ q r : Nat, r < 32 ∧ n = 32 * q + r ∧ IntKind.i64.wrap ((n : Int).tdiv 32) = (q : Int) ∧ (n : Int).tmod 32 = (r : Int) := by
    refine ⟨n / 32, n % 32, by omega, by omega, ?_, ?_⟩
    · rw [Int.tdiv_eq_ediv_of_nonneg (by omega), wrap_i64 (by omega) (by omega)]; omega
    · rw [Int.tmod_eq_emod_of_nonneg (by omega)]; omega
  have c2 : max 0 (min n0 100000) = ((n : Nat) : Int) := by omega
  have hdl := Lm_drop ha q
  have g1 : (0 : Int) ≤ (r : Int) := by omega
  have g2 : min r 64 = r := by omega
  have g3 : IntKind.u64.wrap (r : Int) = (r : Int) := wrap64n (by omega)
  by_cases hA : A.length ≤ q
  · have c1 : (A.length : Int) ≤ (q : Int) := by omega
    have hz : lim (nv A / 2 ^ n) = [] := lim_of_zero (by
      have := down_lt (L := 0) (r := r) ha (q := q) (by omega)
      rw [← hqr] at this
      exact Nat.lt_one_iff.mp this)
    simp -implicitDefEqProofs only [go_sem, Nat.reduceAdd, Nat.reduceEqDiff, Nat.reduceLT, reduceIte, reduceCtorEq, Int.reduceLE, Int.reduceLT, Int.reduceEq, Int.reduceAdd, Int.reduceMul, Int.reduceSub, Nat.reduceMul, Nat.reduceSub, Nat.reducePow, Nat.reduceLeDiff, Int.reduceToNat, Tryd.f67, DD, c1, c2, ht1, ht2, hz]
    rfl
  · have c1 : ¬ (A.length : Int) ≤ (q : Int) := by omega
    have c3 : 0 = 0 := rfl
    have c4 : (0 : Int) ≤ ((A.length - q : Nat) : Int) := by omega
    have c5 : (0 : Int) ≤ (q : Int) := by omega
    have c6 : (q : Int) ≤ (A.length : Int) := by omega
    have c7 : (u32s (A.drop q)).take (A.length - q) = u32s (A.drop q) := by rw [List.take_of_length_le]; simp
    have c8 : (A.drop q).take (A.length - q) = A.drop q := by rw [List.take_of_length_le]; simp
    simp -implicitDefEqProofs only [go_sem, Nat.reduceAdd, Nat.reduceEqDiff, Nat.reduceLT, reduceIte, reduceCtorEq, Int.reduceLE, Int.reduceLT, Int.reduceEq, Int.reduceAdd, Int.reduceMul, Int.reduceSub, Nat.reduceMul, Nat.reduceSub, Nat.reducePow, Nat.reduceLeDiff, Int.reduceToNat, Tryd.f67, DD, c1, c2, c3, c4, c5, c6, c7, c8, ht1, ht2]
    refine ⟨⟨by omega, by omega⟩, ?_⟩
    refine loop_of aW0_mono (fun m σ => ∃ sl out i, σ = ⟨sl, [⟨u32s out, true, true⟩]⟩ ∧ m = A.length - q - i ∧ i ≤ A.length - q ∧ out.length = A.length - q ∧ Lm out ∧
      look sl 5 = I64 (n : Nat) ∧ look sl 6 = .sl (A.length - q) (u32s (A.drop q)) ∧ look sl 7 = .own 1 0 0 (A.length - q) ∧ look sl 8 = I64 (i : Nat) ∧
      nv (out.take i) = nv A / 2 ^ n % 4294967296 ^ i) ?_ (n := A.length - q)
      ⟨_, List.replicate (A.length - q) 0, 0, rfl, rfl, by omega, by simp, Lm_rep _, by simp [x_look], by simp [x_look], by simp [x_look], by simp [x_look], by simp [nv, Nat.mod_one]⟩
    rintro m _ ⟨sl, out, i, rfl, rfl, hi, hlen, hLm, h5, h0, h7, h28, hinv⟩
    by_cases hlt : i < A.length - q
    · have d1 : (i : Int) < ((A.length - q : Nat) : Int) := by omega
      have d2 : IntKind.i64.wrap ((q : Int) + (i : Int)) = ((q + i : Nat) : Int) := by rw [wrap_i64 (by omega) (by omega)]; omega
      have d3 := incI (j := q + i) (by omega)
      have w6 := incI (j := i) (by omega)
      have hdd : (A.drop q).length = A.length - q := by simp
      simp -implicitDefEqProofs only [go_sem, Nat.reduceAdd, Nat.reduceEqDiff, Nat.reduceLT, reduceIte, reduceCtorEq, Int.reduceLE, Int.reduceLT, Int.reduceEq, Int.reduceAdd, Int.reduceMul, Int.reduceSub, Nat.reduceMul, Nat.reduceSub, Nat.reducePow, Nat.reduceLeDiff, Int.reduceToNat, DD, h5, h0, h7, h28, d1, d2, d3, w6, ht1, ht2, hdd]
      refine callK_of false annulusref1_at.call (rat_nat (A.drop q) hdl i) rfl (by simp only [List.map_cons, List.map_nil, snap_sl, snap_int, U32, List.length_drop]) (by simp [ownOK]) (by simp [U32, isD_u32, IsD.v]) ?_
      simp -implicitDefEqProofs only [go_sem, Nat.reduceAdd, Nat.reduceEqDiff, Nat.reduceLT, reduceIte, reduceCtorEq, Int.reduceLE, Int.reduceLT, Int.reduceEq, Int.reduceAdd, Int.reduceMul, Int.reduceSub, Nat.reduceMul, Nat.reduceSub, Nat.reducePow, Nat.reduceLeDiff, Int.reduceToNat, DD, h5, h0, h7, h28, d1, d2, d3, w6, ht1, ht2, hdd]
      refine callK_of false annulusref1_at.call (rat_nat (A.drop q) hdl (i + 1)) rfl (by simp only [List.map_cons, List.map_nil, snap_sl, snap_int, U32, List.length_drop]) (by simp [ownOK]) (by simp [U32, isD_u32, IsD.v]) ?_
      rw [getD_drop0, getD_drop0, ← Nat.add_assoc]
      have hX := Lm_getD ha (q + i)
      have hY := Lm_getD ha (q + i + 1)
      have hlimb := down_limb ha hr q i
      rw [← hqr] at hlimb
      have w1 : IntKind.u64.wrap ((A.getD (q + i + 1) 0 : Nat) * (2 : Int) ^ 32) = ((4294967296 * A.getD (q + i + 1) 0 : Nat) : Int) := by
        rw [show ((A.getD (q + i + 1) 0 : Nat) : Int) * (2 : Int) ^ 32 = ((4294967296 * A.getD (q + i + 1) 0 : Nat) : Int) by omega]; exact wrap64n (by omega)
      have w2 := or64 (a := A.getD (q + i) 0) (b := 4294967296 * A.getD (q + i + 1) 0) (by omega) (by omega)
      have w3 := or_hi (y := A.getD (q + i + 1) 0) hX
      rw [w3] at w2
      generalize A.getD (q + i) 0 + 4294967296 * A.getD (q + i + 1) 0 = v at *
      have w4 : ((v : Int)).fdiv (2 ^ r) = ((v / 2 ^ r : Nat) : Int) := by
        rw [Int.fdiv_eq_ediv_of_nonneg _ (Int.pow_nonneg (by decide))]; simp
      have w5 := wrap32n (v / 2 ^ r)
      have hlo : v / 2 ^ r % 4294967296 < 4294967296 := Nat.mod_lt _ (by omega)
      generalize v / 2 ^ r % 4294967296 = lo at *
      have e3 : (0 : Int) ≤ (i : Int) := by omega
      have e5 : i < A.length - q := by omega
      have e6 : i < out.length := by omega
      have e7 : i + 1 ≤ out.length := by omega
      have d5 := spl_u32s (l := out) (i := i) (x := (lo : Int)) e6 (by omega)
      have d6 : leafA (.v (.int .u32 (lo : Int))) = true := rfl
      simp -implicitDefEqProofs only [go_sem, Nat.reduceAdd, Nat.reduceEqDiff, Nat.reduceLT, reduceIte, reduceCtorEq, Int.reduceLE, Int.reduceLT, Int.reduceEq, Int.reduceAdd, Int.reduceMul, Int.reduceSub, Nat.reduceMul, Nat.reduceSub, Nat.reducePow, Nat.reduceLeDiff, Int.reduceToNat, DD, h5, h0, h7, h28, d1, d2, d3, hdd, w1, w2, w3, w4, w5, w6, g1, g2, g3, ht1, ht2, e3, e5, e6, e7, d5, d6, List.all_cons, List.all_nil, Bool.and_true, Bool.and_self, Int.toNat_natCast]
      refine ⟨A.length - q - (i + 1), by omega, _, out.set i lo, i + 1, rfl, rfl, by omega, by simp [hlen], Lm_set hLm (by omega), by simp [x_look, h5, h0, h7, h28], by simp [x_look, h5, h0, h7, h28], by simp [x_look, h5, h0, h7, h28], by simp [x_look, h5, h0, h7, h28], ?_⟩
      rw [nv_set_zero e6, hinv, mod_pow_succ, hlimb]
    · have d1 : ¬ ((i : Int) < ((A.length - q : Nat) : Int)) := by omega
      have hie : i = A.length - q := by omega
      subst hie
      have hdd : (A.drop q).length = A.length - q := by simp
      simp -implicitDefEqProofs only [go_sem, Nat.reduceAdd, Nat.reduceEqDiff, Nat.reduceLT, reduceIte, reduceCtorEq, Int.reduceLE, Int.reduceLT, Int.reduceEq, Int.reduceAdd, Int.reduceMul, Int.reduceSub, Nat.reduceMul, Nat.reduceSub, Nat.reducePow, Nat.reduceLeDiff, Int.reduceToNat, DD, h5, h0, h7, h28, d1, hdd]
      have hm := down_lt (L := A.length - q) (r := r) ha (q := q) (by omega)
      rw [← hqr] at hm
      rw [nv_take_all (l := out) (by omega), Nat.mod_eq_of_lt hm] at hinv
      have e4 : cutL out = lim (nv A / 2 ^ n) := by rw [cutL_lim hLm, hinv]
      refine callK_u32 annulusref1_Trim.call (rtrim_sat out (by omega)) hlen ?_
      simp -implicitDefEqProofs only [go_sem, Nat.reduceAdd, Nat.reduceEqDiff, Nat.reduceLT, reduceIte, reduceCtorEq, Int.reduceLE, Int.reduceLT, Int.reduceEq, Int.reduceAdd, Int.reduceMul, Int.reduceSub, Nat.reduceMul, Nat.reduceSub, Nat.reducePow, Nat.reduceLeDiff, Int.reduceToNat, DD, e4]

theorem shr_sat (a : List Nat) (n : Int) (ha : Lm a) (hla : a.length < 1099511627776) : Sat CT false 94 [U32 a, I64 n] (U32 (lim (nv a / 2 ^ shN n))) := by
  refine sat_of nat_Shr.ok (by simp) ?_
  simp -implicitDefEqProofs only [go_sem, Nat.reduceAdd, Nat.reduceEqDiff, Nat.reduceLT, reduceIte, reduceCtorEq, Int.reduceLE, Int.reduceLT, Int.reduceEq, Int.reduceAdd, Int.reduceMul, Int.reduceSub, Nat.reduceMul, Nat.reduceSub, Nat.reducePow, Nat.reduceLeDiff, Int.reduceToNat, and_true, Tryd.f94]
  refine callK_of false nat_held.call (held_sat n) rfl rfl (by simp [ownOK]) (by simp [U32, isD_u32, IsD.v]) ?_
  simp -implicitDefEqProofs only [go_sem, Nat.reduceAdd, Nat.reduceEqDiff, Nat.reduceLT, reduceIte, reduceCtorEq, Int.reduceLE, Int.reduceLT, Int.reduceEq, Int.reduceAdd, Int.reduceMul, Int.reduceSub, Nat.reduceMul, Nat.reduceSub, Nat.reducePow, Nat.reduceLeDiff, Int.reduceToNat, and_true]
  refine callK_of false nat_Downwards.call (down_sat a (shN n) ha hla (shN_le n)) rfl rfl (by simp [ownOK]) (by simp [U32, isD_u32, IsD.v]) ?_
  simp -implicitDefEqProofs only [go_sem, Nat.reduceAdd, Nat.reduceEqDiff, Nat.reduceLT, reduceIte, reduceCtorEq, Int.reduceLE, Int.reduceLT, Int.reduceEq, Int.reduceAdd, Int.reduceMul, Int.reduceSub, Nat.reduceMul, Nat.reduceSub, Nat.reducePow, Nat.reduceLeDiff, Int.reduceToNat, and_true]
end Go.Ab

set_option linter.unusedVariables false
set_option maxRecDepth 20000
set_option linter.unusedSimpArgs false
namespace Go.Ab
open Go.Proofs
open Go.Shelf

/-- The shelf's numbers of functions and types, and this program's. -/
def shelfRen : Ren := {
  f := fun x => match x with
    | 128 => 92
    | n => n
  t := fun x => match x with
    | 3 => 3
    | 4 => 4
    | 5 => 5
    | 9 => 9
    | 46 => 65
    | 51 => 67
    | n => n
  g := fun n => n }
theorem lays128 : Lays.n128 Tryd.prog shelfRen := {
  mixed := by kernel_rfl
  f128 := Tryd.func92.trans (congrArg some (by kernel_rfl))
  t3 := Tryd.underlying3
  a3 := Tryd.isAgg3
  z3 := Tryd.sizeOf3
  v3 := Tryd.zeroValue3
  t4 := Tryd.underlying4
  a4 := Tryd.isAgg4
  z4 := Tryd.sizeOf4
  v4 := Tryd.zeroValue4
  t5 := Tryd.underlying5
  a5 := Tryd.isAgg5
  z5 := Tryd.sizeOf5
  v5 := Tryd.zeroValue5
  t9 := Tryd.underlying9
  a9 := Tryd.isAgg9
  z9 := Tryd.sizeOf9
  v9 := Tryd.zeroValue9
  t46 := Tryd.underlying65
  a46 := Tryd.isAgg65
  z46 := Tryd.sizeOf65
  v46 := Tryd.zeroValue65
  t51 := Tryd.underlying67
  a51 := Tryd.isAgg67
  z51 := Tryd.sizeOf67
  v51 := Tryd.zeroValue67 }
/-- A contract of the kit's shelf, of one word. -/
theorem sat_word {f : FuncId} {x y : Value} (h : ∀ w, Calls CT.P f #[x] w fun e w' => e = .returned y ∧ w' = w) : Sat CT false f [.v x] (.v y) := by
  intro w S xs hg hS hl hr
  match xs, hl with
  | [z], _ =>
    have hz := hr 0 (by simp)
    cases hz
    refine (h w).mono ?_
    rintro e w' ⟨rfl, rfl⟩
    exact ⟨y, rfl, .v y, .refl _ _⟩
theorem len32_sat {x : Nat} (hx : x < 4294967296) : Sat CT false 92 [W32 (x : Nat)] (I64 (bl x : Nat)) := by
  refine sat_word fun w => ?_
  have := Any.bits_Len32 lays128 (x : Int) w (by omega) (by omega)
  rw [Int.toNat_natCast, libBl (by omega)] at this
  exact this
end Go.Ab

set_option linter.unusedVariables false
set_option maxRecDepth 20000
set_option linter.unusedSimpArgs false
namespace Go.Ab
open Go.Proofs

theorem bits_sat (a : List Nat) (ha : Lm a) (hla : a.length < 1099511627776) : Sat CT false 68 [U32 a] (I64 (bl (nv a) : Nat)) := by
  refine sat_of nat_Bits.ok (by simp) ?_
  have DD := nat_Bits.dr
  simp only [drP, drPx, drPt, drR, drS, drT, bodyOf, Tryd.f68, Nat.reduceEqDiff, reduceIte, true_and, and_true] at DD
  simp -implicitDefEqProofs only [go_sem, Nat.reduceAdd, Nat.reduceEqDiff, Nat.reduceLT, reduceIte, reduceCtorEq, Int.reduceLE, Int.reduceLT, Int.reduceEq, Int.reduceAdd, Int.reduceMul, Int.reduceSub, Nat.reduceMul, Nat.reduceSub, Nat.reducePow, Nat.reduceLeDiff, Int.reduceToNat, Tryd.f68, DD]
  refine callK_of false nat_cut.call (cut_sat a (by omega)) rfl rfl (by simp [ownOK]) (by simp [U32, isD_u32, IsD.v]) ?_
  have e1 := cutL_length a
  have f3 := nv_cutL a
  have ha := Lm_cutL ha
  have ht := fun k => cut_top (l := a) (k := k)
  rw [← f3]
  generalize cutL a = A at *
  by_cases hA : A.length = 0
  · have c1 : (A.length : Int) = 0 := by omega
    have c2 : bl (nv A) = 0 := by rw [nv_nil_of hA]; rfl
    simp -implicitDefEqProofs only [go_sem, Nat.reduceAdd, Nat.reduceEqDiff, Nat.reduceLT, reduceIte, reduceCtorEq, Int.reduceLE, Int.reduceLT, Int.reduceEq, Int.reduceAdd, Int.reduceMul, Int.reduceSub, Nat.reduceMul, Nat.reduceSub, Nat.reducePow, Nat.reduceLeDiff, Int.reduceToNat, DD, c1, c2]
  · obtain ⟨k, hk⟩ : ∃ k, A.length = k + 1 := ⟨A.length - 1, by omega⟩
    have c1 : ¬ (((k + 1 : Nat) : Int) = 0) := by omega
    have c2 := decI (j := k) (by omega)
    have c3 : (0 : Int) ≤ (k : Int) := by omega
    have c4 : (k : Int) < ((k + 1 : Nat) : Int) := by omega
    have c5 := getD_u32s (l := A) (i := k) (by omega)
    have c6 : k < k + 1 := by omega
    have c7 : IntKind.i64.wrap (32 * (k : Int)) = ((32 * k : Nat) : Int) := by rw [wrap_i64 (by omega) (by omega)]; omega
    have hx := Lm_getD ha k
    have hb : bl (A.getD k 0) ≤ 32 := bl_le_of (by omega)
    have c8 : IntKind.i64.wrap (((32 * k : Nat) : Int) + ((bl (A.getD k 0) : Nat) : Int)) = ((32 * k + bl (A.getD k 0) : Nat) : Int) := by rw [wrap_i64 (by omega) (by omega)]; omega
    simp -implicitDefEqProofs only [go_sem, Nat.reduceAdd, Nat.reduceEqDiff, Nat.reduceLT, reduceIte, reduceCtorEq, Int.reduceLE, Int.reduceLT, Int.reduceEq, Int.reduceAdd, Int.reduceMul, Int.reduceSub, Nat.reduceMul, Nat.reduceSub, Nat.reducePow, Nat.reduceLeDiff, Int.reduceToNat, DD, hk, c1, c2, c3, c4, c5, c6, c7]
    refine callK_of false math_bits_Len32.call (len32_sat hx) rfl rfl (by simp [ownOK]) (by simp [IsD.v]) ?_
    simp -implicitDefEqProofs only [go_sem, Nat.reduceAdd, Nat.reduceEqDiff, Nat.reduceLT, reduceIte, reduceCtorEq, Int.reduceLE, Int.reduceLT, Int.reduceEq, Int.reduceAdd, Int.reduceMul, Int.reduceSub, Nat.reduceMul, Nat.reduceSub, Nat.reducePow, Nat.reduceLeDiff, Int.reduceToNat, DD, c8, bl_nv ha hk (ht k hk)]

theorem rbit_sat (a : List Nat) (n : Nat) (ha : Lm a) (hla : a.length < 1099511627776) (hn : n < 4611686018427387904) : Sat CT false 89 [U32 a, I64 (n : Nat)] (Bo ((nv a).testBit n)) := by
  refine sat_of annulusref1_Bit.ok (by simp) ?_
  have DD := annulusref1_Bit.dr
  simp only [drP, drPx, drPt, drR, drS, drT, bodyOf, Tryd.f89, Nat.reduceEqDiff, reduceIte, true_and, and_true] at DD
  obtain ⟨q, r, hr, hqr, ht1, ht2⟩ : ∃ q r : Nat, r < 32 ∧ n = 32 * q + r ∧ IntKind.i64.wrap ((n : Int).tdiv 32) = (q : Int) ∧ (n : Int).tmod 32 = (r : Int) := by
    refine ⟨n / 32, n % 32, by omega, by omega, ?_, ?_⟩
    · rw [Int.tdiv_eq_ediv_of_nonneg (by omega), wrap_i64 (by omega) (by omega)]; omega
    · rw [Int.tmod_eq_emod_of_nonneg (by omega)]; omega
  have c1 : (0 : Int) ≤ (n : Int) := by omega
  have hb := testBit_nv ha q hr
  rw [← hqr] at hb
  by_cases hq : q < a.length
  · have c2 : (q : Int) < (a.length : Int) := by omega
    have c3 : (0 : Int) ≤ (q : Int) := by omega
    have c4 := getD_u32s hq
    have g1 : (0 : Int) ≤ (r : Int) := by omega
    have g2 : min r 32 = r := by omega
    have g3 : IntKind.u64.wrap (r : Int) = (r : Int) := wrap64n (by omega)
    have hX := Lm_getD ha q
    generalize a.getD q 0 = X at *
    have w1 : ((X : Int)).fdiv (2 ^ r) = ((X / 2 ^ r : Nat) : Int) := by
      rw [Int.fdiv_eq_ediv_of_nonneg _ (Int.pow_nonneg (by decide))]; simp
    have w2 := and32 (a := X / 2 ^ r) (b := 1) (Nat.lt_of_le_of_lt (Nat.div_le_self _ _) hX) (by omega)
    have w3 := testBit_dec X r
    rw [← hb] at w3
    have w2' : bits .and .u32 ((X / 2 ^ r : Nat) : Int) 1 = ((X / 2 ^ r &&& 1 : Nat) : Int) := w2
    generalize X / 2 ^ r = Z at *
    by_cases hz : ((Z &&& 1 : Nat) : Int) = 1
    · rw [decide_eq_true hz] at w3
      simp -implicitDefEqProofs only [go_sem, Nat.reduceAdd, Nat.reduceEqDiff, Nat.reduceLT, reduceIte, reduceCtorEq, Int.reduceLE, Int.reduceLT, Int.reduceEq, Int.reduceAdd, Int.reduceMul, Int.reduceSub, Nat.reduceMul, Nat.reduceSub, Nat.reducePow, Nat.reduceLeDiff, Int.reduceToNat, Tryd.f89, DD, ht1, ht2, c1, c2, c3, c4, hq, g1, g2, g3, w1, w2', hz, ← w3]
    · rw [decide_eq_false hz] at w3
      simp -implicitDefEqProofs only [go_sem, Nat.reduceAdd, Nat.reduceEqDiff, Nat.reduceLT, reduceIte, reduceCtorEq, Int.reduceLE, Int.reduceLT, Int.reduceEq, Int.reduceAdd, Int.reduceMul, Int.reduceSub, Nat.reduceMul, Nat.reduceSub, Nat.reducePow, Nat.reduceLeDiff, Int.reduceToNat, Tryd.f89, DD, ht1, ht2, c1, c2, c3, c4, hq, g1, g2, g3, w1, w2', hz, ← w3]
  · have c2 : ¬ (q : Int) < (a.length : Int) := by omega
    have c3 : a.getD q 0 = 0 := by simp [List.getD_eq_getElem?_getD, Nat.not_lt.mp hq]
    rw [c3, Nat.zero_testBit] at hb
    simp -implicitDefEqProofs only [go_sem, Nat.reduceAdd, Nat.reduceEqDiff, Nat.reduceLT, reduceIte, reduceCtorEq, Int.reduceLE, Int.reduceLT, Int.reduceEq, Int.reduceAdd, Int.reduceMul, Int.reduceSub, Nat.reduceMul, Nat.reduceSub, Nat.reducePow, Nat.reduceLeDiff, Int.reduceToNat, Tryd.f89, DD, ht1, ht2, c1, c2, hb]

theorem rlow_sat (a : List Nat) (ha : Lm a) (hla : a.length < 1099511627776) : Sat CT false 66 [U32 a] (I64 (tz (nv a) : Nat)) := by
  refine sat_of annulusref1_Low.ok (by simp) ?_
  have DD := annulusref1_Low.dr
  simp only [drP, drPx, drPt, drR, drS, drT, bodyOf, Tryd.f66, Nat.reduceEqDiff, reduceIte, true_and, and_true] at DD
  simp -implicitDefEqProofs only [go_sem, Nat.reduceAdd, Nat.reduceEqDiff, Nat.reduceLT, reduceIte, reduceCtorEq, Int.reduceLE, Int.reduceLT, Int.reduceEq, Int.reduceAdd, Int.reduceMul, Int.reduceSub, Nat.reduceMul, Nat.reduceSub, Nat.reducePow, Nat.reduceLeDiff, Int.reduceToNat, Tryd.f66, DD]
  refine callK_of false annulusref1_Trim.call (rtrim_sat a (by omega)) rfl rfl (by simp [ownOK]) (by simp [U32, isD_u32, IsD.v]) ?_
  have e1 := cutL_length a
  have f1 := cutL_lim ha
  have f3 := nv_cutL a
  have ha := Lm_cutL ha
  rw [← f3] at f1 ⊢
  generalize cutL a = A at *
  by_cases hA : A.length = 0
  · have c1 : (A.length : Int) = 0 := by omega
    have c2 : tz (nv A) = 0 := by rw [nv_nil_of hA, tz]; rfl
    simp -implicitDefEqProofs only [go_sem, Nat.reduceAdd, Nat.reduceEqDiff, Nat.reduceLT, reduceIte, reduceCtorEq, Int.reduceLE, Int.reduceLT, Int.reduceEq, Int.reduceAdd, Int.reduceMul, Int.reduceSub, Nat.reduceMul, Nat.reduceSub, Nat.reducePow, Nat.reduceLeDiff, Int.reduceToNat, DD, c1, c2]
  · have c1 : ¬ ((A.length : Int) = 0) := by omega
    have hne : nv A ≠ 0 := fun h => hA (by rw [f1, h, lim_zero]; rfl)
    obtain ⟨hb1, hb2⟩ := tz_bit hne
    have hlt := nv_lt ha
    rw [show (4294967296 : Nat) ^ A.length = 2 ^ (32 * A.length) by rw [Nat.pow_mul]] at hlt
    have ht := tz_lt hne hlt
    simp -implicitDefEqProofs only [go_sem, Nat.reduceAdd, Nat.reduceEqDiff, Nat.reduceLT, reduceIte, reduceCtorEq, Int.reduceLE, Int.reduceLT, Int.reduceEq, Int.reduceAdd, Int.reduceMul, Int.reduceSub, Nat.reduceMul, Nat.reduceSub, Nat.reducePow, Nat.reduceLeDiff, Int.reduceToNat, DD, c1]
    refine loop_of aW0_mono (fun m σ => ∃ sl n, σ = ⟨sl, []⟩ ∧ m = tz (nv A) - n ∧ n ≤ tz (nv A) ∧ look sl 3 = .sl A.length (u32s A) ∧ look sl 4 = I64 (n : Nat)) ?_ (n := tz (nv A))
      ⟨_, 0, rfl, rfl, by omega, by simp [x_look], by simp [x_look]⟩
    rintro m _ ⟨sl, n, rfl, rfl, hn, h3, h4⟩
    simp -implicitDefEqProofs only [go_sem, Nat.reduceAdd, Nat.reduceEqDiff, Nat.reduceLT, reduceIte, reduceCtorEq, Int.reduceLE, Int.reduceLT, Int.reduceEq, Int.reduceAdd, Int.reduceMul, Int.reduceSub, Nat.reduceMul, Nat.reduceSub, Nat.reducePow, Nat.reduceLeDiff, Int.reduceToNat, DD, h3, h4]
    refine callK_of false annulusref1_Bit.call (rbit_sat A n ha (by omega) (by omega)) rfl rfl (by simp [ownOK]) (by simp [U32, isD_u32, IsD.v]) ?_
    by_cases hz : n = tz (nv A)
    · subst hz
      simp -implicitDefEqProofs only [go_sem, Nat.reduceAdd, Nat.reduceEqDiff, Nat.reduceLT, reduceIte, reduceCtorEq, Int.reduceLE, Int.reduceLT, Int.reduceEq, Int.reduceAdd, Int.reduceMul, Int.reduceSub, Nat.reduceMul, Nat.reduceSub, Nat.reducePow, Nat.reduceLeDiff, Int.reduceToNat, DD, h3, h4, hb1, Bool.not_true, Bool.not_false, Bool.false_eq_true]
    · have hf := hb2 n (by omega)
      have d2 := incI (j := n) (by omega)
      simp -implicitDefEqProofs only [go_sem, Nat.reduceAdd, Nat.reduceEqDiff, Nat.reduceLT, reduceIte, reduceCtorEq, Int.reduceLE, Int.reduceLT, Int.reduceEq, Int.reduceAdd, Int.reduceMul, Int.reduceSub, Nat.reduceMul, Nat.reduceSub, Nat.reducePow, Nat.reduceLeDiff, Int.reduceToNat, DD, h3, h4, hf, d2, Bool.not_true, Bool.not_false, Bool.false_eq_true]
      exact ⟨tz (nv A) - (n + 1), by omega, _, n + 1, rfl, rfl, by omega, by simp [x_look, h3], by simp [x_look]⟩
end Go.Ab

set_option linter.unusedVariables false
set_option maxRecDepth 20000
set_option linter.unusedSimpArgs false
namespace Go.Ab
open Go.Proofs

def tabN : List Nat := [0, 1, 28, 2, 29, 14, 24, 3, 30, 22, 20, 15, 25, 17, 4, 8, 31, 27, 13, 23, 21, 19, 16, 7, 26, 12, 18, 6, 11, 5, 10, 9]
theorem tabN_tab : tab32 = tabN.map fun (n : Nat) => .int .u8 (n : Int) := rfl
theorem tab_key : ∀ t : Fin 32, 2 ^ t.val * 125613361 % 4294967296 / 134217728 < 32 ∧ tabN.getD (2 ^ t.val * 125613361 % 4294967296 / 134217728) 99 = t.val := by decide
theorem tab_at (t : Nat) (ht : t < 32) : ∃ p : Nat, p < 32 ∧ tabN.getD p 99 = t ∧ (IntKind.u32.wrap (((2 ^ t : Nat) : Int) * 125613361)).fdiv (2 ^ 27) = (p : Int) := by
  have key := tab_key ⟨t, ht⟩
  generalize hF : (⟨t, ht⟩ : Fin 32) = F at key
  have hv : F.val = t := by rw [← hF]
  rw [hv] at key
  clear hF hv
  generalize 2 ^ t = P at *
  have hP : IntKind.u32.wrap ((P : Int) * 125613361) = ((P * 125613361 % 4294967296 : Nat) : Int) := by rw [wrap_u32]; omega
  rw [hP, Int.fdiv_eq_ediv_of_nonneg _ (by omega)]
  generalize P * 125613361 % 4294967296 = Q at *
  exact ⟨Q / 134217728, key.1, key.2, by omega⟩
theorem tab_val {p t : Nat} (k3 : tabN.getD p 99 = t) (k2 : p < 32) : (tab32.map AV.v).getD p .bad = .v (.int .u8 (t : Nat)) := by
  rw [tabN_tab, List.getD_eq_getElem?_getD, List.getElem?_map, List.getElem?_map]
  rw [List.getD_eq_getElem?_getD] at k3
  have hl : p < tabN.length := k2
  rw [List.getElem?_eq_getElem hl] at k3 ⊢
  simp only [Option.getD_some, Option.map_some] at k3 ⊢
  rw [k3]
theorem tz32_sat (x : Nat) (h0 : x ≠ 0) (hx : x < 4294967296) : Sat CT false 108 [W32 (x : Nat)] (I64 (tz x : Nat)) := by
  refine sat_of math_bits_TrailingZeros32.ok (by simp) ?_
  have DD := math_bits_TrailingZeros32.dr
  simp only [drP, drPx, drPt, drR, drS, drT, bodyOf, Tryd.f108, Nat.reduceEqDiff, reduceIte, true_and, and_true] at DD
  have c1 : ¬ ((x : Int) = 0) := by omega
  have ht := tz_lt h0 (n := 32) (by omega)
  obtain ⟨t, m, rfl⟩ := tz_ex h0
  rw [tz_eq] at ht ⊢
  have e1 : IntKind.u32.wrap (0 - ((2 ^ t * (2 * m + 1) : Nat) : Int)) = ((4294967296 - 2 ^ t * (2 * m + 1) : Nat) : Int) := by rw [wrap_u32]; omega
  have e2 := and32 hx (b := 4294967296 - 2 ^ t * (2 * m + 1)) (by omega)
  rw [tz_and ht hx] at e2
  generalize 2 ^ t * (2 * m + 1) = y at *
  obtain ⟨p, e4, k3, e3⟩ := tab_at t ht
  have e5 := tab_val k3 e4
  have e6 : IntKind.i64.wrap (t : Int) = (t : Int) := wrap_i64 (by omega) (by omega)
  have e7 : (0 : Int) ≤ (p : Int) := by omega
  have e8 : (p : Int) < ((32 : Nat) : Int) := by omega
  have e9 : p < tab32.length := e4
  have x1 : min 27 32 = 27 := rfl
  simp -implicitDefEqProofs only [go_sem, Nat.reduceAdd, Nat.reduceEqDiff, Nat.reduceLT, reduceIte, reduceCtorEq, Int.reduceLE, Int.reduceLT, Int.reduceEq, Int.reduceAdd, Int.reduceMul, Int.reduceSub, Nat.reduceMul, Nat.reduceSub, Nat.reducePow, Nat.reduceLeDiff, Int.reduceToNat, Tryd.f108, DD, c1, e1, e2, e3, e4, e5, e6, e7, e8, e9, x1, x_glob0]

theorem low_sat (a : List Nat) (ha : Lm a) (hla : a.length < 1099511627776) : Sat CT false 98 [U32 a] (I64 (tz (nv a) : Nat)) := by
  refine sat_of nat_Low.ok (by simp) ?_
  have DD := nat_Low.dr
  simp only [drP, drPx, drPt, drR, drS, drT, bodyOf, Tryd.f98, Nat.reduceEqDiff, reduceIte, true_and, and_true] at DD
  simp -implicitDefEqProofs only [go_sem, Nat.reduceAdd, Nat.reduceEqDiff, Nat.reduceLT, reduceIte, reduceCtorEq, Int.reduceLE, Int.reduceLT, Int.reduceEq, Int.reduceAdd, Int.reduceMul, Int.reduceSub, Nat.reduceMul, Nat.reduceSub, Nat.reducePow, Nat.reduceLeDiff, Int.reduceToNat, Tryd.f98, DD]
  refine loop_of aW0_mono (fun m σ => ∃ sl i, σ = ⟨sl, []⟩ ∧ m = a.length - i ∧ i ≤ a.length ∧ look sl 5 = .sl a.length (u32s a) ∧ look sl 6 = I64 (a.length : Nat) ∧ look sl 7 = I64 (i : Nat) ∧ nv (a.take i) = 0) ?_ (n := a.length)
      ⟨_, 0, rfl, rfl, by omega, by simp [x_look], by simp [x_look], by simp [x_look], by simp [nv]⟩
  rintro m _ ⟨sl, i, rfl, rfl, hi, h5, h6, h7, hinv⟩
  by_cases hlt : i < a.length
  · have c1 : (i : Int) < (a.length : Int) := by omega
    have c2 : (0 : Int) ≤ (i : Int) := by omega
    have c3 := getD_u32s hlt
    by_cases hz : a.getD i 0 = 0
    · have c4 : ((a.getD i 0 : Nat) : Int) = 0 := by omega
      have c5 := incI (j := i) (by omega)
      simp -implicitDefEqProofs only [go_sem, Nat.reduceAdd, Nat.reduceEqDiff, Nat.reduceLT, reduceIte, reduceCtorEq, Int.reduceLE, Int.reduceLT, Int.reduceEq, Int.reduceAdd, Int.reduceMul, Int.reduceSub, Nat.reduceMul, Nat.reduceSub, Nat.reducePow, Nat.reduceLeDiff, Int.reduceToNat, DD, h5, h6, h7, c1, c2, c3, c4, c5, hlt]
      exact ⟨a.length - (i + 1), by omega, _, i + 1, rfl, rfl, by omega, by simp [x_look, h5], by simp [x_look, h6], by simp [x_look], by rw [nv_take_succ, hinv, hz]; rfl⟩
    · have c4 : ¬ ((a.getD i 0 : Nat) : Int) = 0 := by omega
      have hx := Lm_getD ha i
      have htz := tz_nv ha hlt hinv hz
      have htl := tz_lt hz (n := 32) (by omega)
      have c6 : IntKind.i64.wrap (32 * (i : Int)) = ((32 * i : Nat) : Int) := by rw [wrap_i64 (by omega) (by omega)]; omega
      have c7 : IntKind.i64.wrap (((32 * i : Nat) : Int) + ((tz (a.getD i 0) : Nat) : Int)) = ((32 * i + tz (a.getD i 0) : Nat) : Int) := by rw [wrap_i64 (by omega) (by omega)]; omega
      simp -implicitDefEqProofs only [go_sem, Nat.reduceAdd, Nat.reduceEqDiff, Nat.reduceLT, reduceIte, reduceCtorEq, Int.reduceLE, Int.reduceLT, Int.reduceEq, Int.reduceAdd, Int.reduceMul, Int.reduceSub, Nat.reduceMul, Nat.reduceSub, Nat.reducePow, Nat.reduceLeDiff, Int.reduceToNat, DD, h5, h6, h7, c1, c2, c3, c4, c6, hlt]
      refine callK_of false math_bits_TrailingZeros32.call (tz32_sat (a.getD i 0) hz hx) rfl rfl (by simp [ownOK]) (by simp [IsD.v]) ?_
      simp -implicitDefEqProofs only [go_sem, Nat.reduceAdd, Nat.reduceEqDiff, Nat.reduceLT, reduceIte, reduceCtorEq, Int.reduceLE, Int.reduceLT, Int.reduceEq, Int.reduceAdd, Int.reduceMul, Int.reduceSub, Nat.reduceMul, Nat.reduceSub, Nat.reducePow, Nat.reduceLeDiff, Int.reduceToNat, DD, c7, htz]
  · have c1 : ¬ (i : Int) < (a.length : Int) := by omega
    rw [nv_take_all (by omega)] at hinv
    have c2 : tz (nv a) = 0 := by rw [hinv, tz]; rfl
    simp -implicitDefEqProofs only [go_sem, Nat.reduceAdd, Nat.reduceEqDiff, Nat.reduceLT, reduceIte, reduceCtorEq, Int.reduceLE, Int.reduceLT, Int.reduceEq, Int.reduceAdd, Int.reduceMul, Int.reduceSub, Nat.reduceMul, Nat.reduceSub, Nat.reducePow, Nat.reduceLeDiff, Int.reduceToNat, DD, h5, h6, h7, c1, c2]

end Go.Ab

set_option linter.unusedVariables false
set_option maxRecDepth 20000
set_option linter.unusedSimpArgs false
namespace Go.Ab
open Go.Proofs

end Go.Ab

set_option linter.unusedVariables false
set_option maxRecDepth 20000
set_option linter.unusedSimpArgs false
namespace Go.Ab
open Go.Proofs

theorem lim_len_mono {x y : Nat} (h : x ≤ y) : (lim x).length ≤ (lim y).length := by
  refine Nat.le_of_not_lt fun q => ?_
  have := lim_lt q
  omega
theorem lim_add_len {x y L : Nat} (hx : (lim x).length ≤ L) (hy : (lim y).length ≤ L) : (lim (x + y)).length ≤ L + 1 := by
  have z1 := nv_lt_of (Lm_lim x) hx
  have z2 := nv_lt_of (Lm_lim y) hy
  rw [nv_lim] at z1 z2
  refine lim_length_le ?_
  rw [Nat.pow_succ]
  generalize 4294967296 ^ L = P at *
  omega
theorem lim_mul_len {x y L M : Nat} (hx : (lim x).length ≤ L) (hy : (lim y).length ≤ M) : (lim (x * y)).length ≤ L + M := by
  have z1 := nv_lt_of (Lm_lim x) hx
  have z2 := nv_lt_of (Lm_lim y) hy
  rw [nv_lim] at z1 z2
  refine lim_length_le ?_
  rw [Nat.pow_add]
  exact Nat.mul_lt_mul'' z1 z2
theorem lim_pow2 (k : Nat) : (lim (2 ^ k)).length ≤ k / 32 + 1 := by
  refine lim_length_le ?_
  have e : (4294967296 : Nat) ^ (k / 32 + 1) = 2 ^ (32 * (k / 32 + 1)) := by rw [Nat.pow_mul]
  rw [e]
  exact Nat.pow_lt_pow_right (by omega) (by omega)
end Go.Ab

set_option linter.unusedVariables false
set_option maxRecDepth 20000
set_option linter.unusedSimpArgs false
namespace Go.Ab
open Go.Proofs

section
variable {C : Ctx} {N : Nat} {d : Bool}
theorem x_app {all : Array Oper} {l1 l2 : List Oper} {KS : AState → Prop} {σ : AState} : opsW C N d all (l1.append l2) KS σ = opsW C N d all l1 (fun σ => opsW C N d all l2 KS σ) σ := by
  show opsW C N d all (l1 ++ l2) KS σ = _
  induction l1 generalizing σ with
  | nil => rfl
  | cons o r ih => simp only [List.cons_append, opsW, ih]
theorem x_ga0 {α : Type} {x : α} {l m : List α} : ((x :: l).append m)[0]? = some x := rfl
theorem x_gas {α : Type} {x : α} {l m : List α} {n : Nat} : ((x :: l).append m)[n + 1]? = (l.append m)[n]? := rfl
theorem x_gan {α : Type} {m : List α} {n : Nat} : (([] : List α).append m)[n]? = m[n]? := rfl
end
theorem same_yes (a b : List Nat) (h : a = b) (hla : a.length < 1099511627776) : Sat CT false 64 [U32 a, U32 b] (Bo true) := by
  have := same_sat a b hla (by rw [← h]; exact hla)
  rwa [decide_eq_true h] at this
end Go.Ab

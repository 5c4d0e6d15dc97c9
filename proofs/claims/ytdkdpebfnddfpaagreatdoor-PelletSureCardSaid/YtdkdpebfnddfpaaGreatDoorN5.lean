/- Contracts of this seat's functions (of each call: what it answers), walked over the abstract machine, and the laws of numbers that they want. Conditions: those that each theorem states. -/
import Derived.Test.YtdkdpebfnddfpaaGreatDoorN4
set_option linter.unusedVariables false
set_option maxRecDepth 20000
set_option linter.unusedSimpArgs false
namespace Go.Ab
open Go.Proofs

theorem mul_sat (a b : List Nat) (ha : Lm a) (hb : Lm b) (hla : a.length < 1099511627776) (hlb : b.length < 1099511627776) : Sat CT false 58 [U32 a, U32 b] (U32 (lim (nv a * nv b))) := by
  refine sat_of nat_Mul.ok (by simp) ?_
  have DD := nat_Mul.dr
  simp only [drP, drPx, drPt, drR, drS, drT, bodyOf, Tryz.f58, Nat.reduceEqDiff, reduceIte, true_and, and_true] at DD
  simp -implicitDefEqProofs only [go_sem, Nat.reduceAdd, Nat.reduceEqDiff, Nat.reduceLT, reduceIte, reduceCtorEq, Int.reduceLE, Int.reduceLT, Int.reduceEq, Int.reduceAdd, Int.reduceMul, Int.reduceSub, Nat.reduceMul, Nat.reduceSub, Nat.reducePow, Nat.reduceLeDiff, Int.reduceToNat, Tryz.f58, DD]
  refine callK_of false nat_cut.call (cut_sat a (by omega)) rfl rfl (by simp [ownOK]) (by simp [U32, isD_u32, IsD.v]) ?_
  simp -implicitDefEqProofs only [go_sem, Nat.reduceAdd, Nat.reduceEqDiff, Nat.reduceLT, reduceIte, reduceCtorEq, Int.reduceLE, Int.reduceLT, Int.reduceEq, Int.reduceAdd, Int.reduceMul, Int.reduceSub, Nat.reduceMul, Nat.reduceSub, Nat.reducePow, Nat.reduceLeDiff, Int.reduceToNat, DD]
  refine callK_of false nat_cut.call (cut_sat b (by omega)) rfl rfl (by simp [ownOK]) (by simp [U32, isD_u32, IsD.v]) ?_
  have e1 := cutL_length a
  have e2 := cutL_length b
  have f3 := nv_cutL a
  have f4 := nv_cutL b
  have ha := Lm_cutL ha
  have hb := Lm_cutL hb
  rw [← f3, ← f4]
  generalize cutL a = A at *
  generalize cutL b = B at *
  have c1 : IntKind.i64.wrap ((A.length : Int) + (B.length : Int)) = ((A.length + B.length : Nat) : Int) := by rw [wrap_i64 (by omega) (by omega)]; omega
  have c2 : (0 : Int) ≤ ((A.length + B.length : Nat) : Int) := by omega
  simp -implicitDefEqProofs only [go_sem, Nat.reduceAdd, Nat.reduceEqDiff, Nat.reduceLT, reduceIte, reduceCtorEq, Int.reduceLE, Int.reduceLT, Int.reduceEq, Int.reduceAdd, Int.reduceMul, Int.reduceSub, Nat.reduceMul, Nat.reduceSub, Nat.reducePow, Nat.reduceLeDiff, Int.reduceToNat, DD, c1, c2]
  refine ⟨⟨by omega, by omega⟩, ?_⟩
  refine loop_of aW0_mono (fun m σ => ∃ sl out i, σ = ⟨sl, [⟨u32s out, true, true⟩]⟩ ∧ m = A.length - i ∧ i ≤ A.length ∧ out.length = A.length + B.length ∧ Lm out ∧ i ≤ A.length + 7 ∧
      look sl 0 = .sl A.length (u32s A) ∧ look sl 1 = .sl B.length (u32s B) ∧ look sl 5 = .own 1 0 0 (A.length + B.length) ∧ look sl 21 = .sl A.length (u32s A) ∧ look sl 22 = I64 (A.length : Nat) ∧ look sl 23 = I64 (i : Nat) ∧
      nv (out.take (i + B.length)) = nv (A.take i) * nv B) ?_ (n := A.length)
    ⟨_, List.replicate (A.length + B.length) 0, 0, rfl, rfl, by omega, by simp, Lm_rep _, by omega, by simp [x_look], by simp [x_look], by simp [x_look], by simp [x_look], by simp [x_look], by simp [x_look], by rw [List.take_replicate, nv_rep]; simp [nv]⟩
  rintro m _ ⟨sl, out, i, rfl, rfl, hi, hlen, hLm, hz, h0, h1, h5, h21, h22, h23, hinv⟩
  by_cases hlt : i < A.length
  · have d1 : (i : Int) < (A.length : Int) := by omega
    have d2 : (0 : Int) ≤ (i : Int) := by omega
    have d3 := getD_u32s hlt
    simp -implicitDefEqProofs only [go_sem, Nat.reduceAdd, Nat.reduceEqDiff, Nat.reduceLT, reduceIte, reduceCtorEq, Int.reduceLE, Int.reduceLT, Int.reduceEq, Int.reduceAdd, Int.reduceMul, Int.reduceSub, Nat.reduceMul, Nat.reduceSub, Nat.reducePow, Nat.reduceLeDiff, Int.reduceToNat, DD, h0, h1, h5, h21, h22, h23, d1, d2, d3, hlt]
    refine loop_of aW0_mono (fun m σ => ∃ sl out c k, σ = ⟨sl, [⟨u32s out, true, true⟩]⟩ ∧ m = B.length - k ∧ k ≤ B.length ∧ out.length = A.length + B.length ∧ Lm out ∧ c < 4294967296 ∧ i ≤ A.length + 7 ∧
      look sl 0 = .sl A.length (u32s A) ∧ look sl 1 = .sl B.length (u32s B) ∧ look sl 5 = .own 1 0 0 (A.length + B.length) ∧ look sl 21 = .sl A.length (u32s A) ∧ look sl 22 = I64 (A.length : Nat) ∧ look sl 23 = I64 (i : Nat) ∧ look sl 6 = I64 (i : Nat) ∧ look sl 7 = W32 (A.getD i 0 : Nat) ∧ look sl 8 = W64 (c : Nat) ∧ look sl 28 = .sl B.length (u32s B) ∧ look sl 29 = I64 (B.length : Nat) ∧ look sl 30 = I64 (k : Nat) ∧
      nv (out.take (i + B.length)) + 4294967296 ^ (i + k) * c = nv (A.take i) * nv B + 4294967296 ^ i * (A.getD i 0 * nv (B.take k))) ?_ (n := B.length)
      ⟨_, out, 0, 0, rfl, rfl, by omega, hlen, hLm, by omega, hz, by simp [x_look, h0, h1, h5, h21, h22, h23], by simp [x_look, h0, h1, h5, h21, h22, h23], by simp [x_look, h0, h1, h5, h21, h22, h23], by simp [x_look, h0, h1, h5, h21, h22, h23], by simp [x_look, h0, h1, h5, h21, h22, h23], by simp [x_look, h0, h1, h5, h21, h22, h23], by simp [x_look, h0, h1, h5, h21, h22, h23], by simp [x_look, h0, h1, h5, h21, h22, h23], by simp [x_look, h0, h1, h5, h21, h22, h23], by simp [x_look, h0, h1, h5, h21, h22, h23], by simp [x_look, h0, h1, h5, h21, h22, h23], by simp [x_look, h0, h1, h5, h21, h22, h23], by simp [nv, hinv]⟩
    clear h0 h1 h5 h21 h22 h23 hinv hlen hLm hz
    clear out
    rintro m _ ⟨sl, out, c, k, rfl, rfl, hk, hlen, hLm, hc, iz, j0, j1, j5, o21, o22, o23, i6, i7, i8, i28, i29, i30, hinv⟩
    by_cases hlt2 : k < B.length
    · have e1 : (k : Int) < (B.length : Int) := by omega
      have e2 : (0 : Int) ≤ (k : Int) := by omega
      have e3 := getD_u32s hlt2
      have e4 : IntKind.i64.wrap ((i : Int) + (k : Int)) = ((i + k : Nat) : Int) := by rw [wrap_i64 (by omega) (by omega)]; omega
      have e5 : (0 : Int) ≤ ((i + k : Nat) : Int) := by omega
      have e6 : ((i + k : Nat) : Int) < ((A.length + B.length : Nat) : Int) := by omega
      have e6' : i + k < A.length + B.length := by omega
      have e7 := getD_u32s (l := out) (i := i + k) (by omega)
      have e8 : i + k + 1 ≤ out.length := by omega
      have e9 : i + k < out.length := by omega
      have hx := Lm_getD ha i
      have hy := Lm_getD hb k
      have ho := Lm_getD hLm (i + k)
      have hset := fun v => nv_set_take (l := out) (j := i + k) (n := i + B.length) (v := v) (by omega) (by omega)
      have htk := nv_take_succ B k
      generalize A.getD i 0 = x at *
      generalize B.getD k 0 = y at *
      generalize out.getD (i + k) 0 = z at *
      have hm := mul_lt hx hy
      have w0 : ∀ n : Nat, n < 4294967296 → IntKind.u64.wrap (n : Int) = (n : Int) := fun n hn => wrap_u64 (by omega) (by omega)
      have wx := w0 x hx
      have wy := w0 y hy
      have wz := w0 z ho
      have w1 : IntKind.u64.wrap ((x : Int) * (y : Int)) = ((x * y : Nat) : Int) := by rw [wrap_u64 (by omega) (by rw [← Int.natCast_mul]; omega), Int.natCast_mul]
      have w2 : IntKind.u64.wrap ((z : Int) + ((x * y : Nat) : Int)) = ((z + x * y : Nat) : Int) := by rw [wrap_u64 (by omega) (by omega)]; omega
      have w3 : IntKind.u64.wrap ((c : Int) + ((z + x * y : Nat) : Int)) = ((c + z + x * y : Nat) : Int) := by rw [wrap_u64 (by omega) (by omega)]; omega
      have hsp := limb_split (c + z + x * y)
      have w4 := wrap32n (c + z + x * y)
      have w5 := fdiv32 (c + z + x * y)
      have w6 := incI (j := k) (by omega)
      have hlo : (c + z + x * y) % 4294967296 < 4294967296 := Nat.mod_lt _ (by omega)
      have hhi : (c + z + x * y) / 4294967296 < 4294967296 := by omega
      generalize (c + z + x * y) % 4294967296 = lo at *
      generalize (c + z + x * y) / 4294967296 = hi2 at *
      have d5 := spl_u32s (l := out) (i := i + k) (x := (lo : Int)) e9 (by omega)
      have d6 : leafA (.v (.int .u32 (lo : Int))) = true := rfl
      simp -implicitDefEqProofs only [go_sem, Nat.reduceAdd, Nat.reduceEqDiff, Nat.reduceLT, reduceIte, reduceCtorEq, Int.reduceLE, Int.reduceLT, Int.reduceEq, Int.reduceAdd, Int.reduceMul, Int.reduceSub, Nat.reduceMul, Nat.reduceSub, Nat.reducePow, Nat.reduceLeDiff, Int.reduceToNat, DD, j0, j1, j5, o21, o22, o23, i6, i7, i8, i28, i29, i30, d1, d2, d3, hlt, hlt2, e1, e2, e3, e4, e5, e6, e6', e7, e8, e9, wx, wy, wz, w1, w2, w3, w4, w5, w6, d5, d6, List.all_cons, List.all_nil, Bool.and_true, Bool.and_self, Int.toNat_natCast]
      refine ⟨B.length - (k + 1), by omega, _, out.set (i + k) lo, hi2, k + 1, rfl, rfl, by omega, by simp [hlen], Lm_set hLm (by omega), by omega, by omega,
        by simp [x_look, j0, j1, j5, o21, o22, o23, i6, i7, i8, i28, i29, i30], by simp [x_look, j0, j1, j5, o21, o22, o23, i6, i7, i8, i28, i29, i30], by simp [x_look, j0, j1, j5, o21, o22, o23, i6, i7, i8, i28, i29, i30], by simp [x_look, j0, j1, j5, o21, o22, o23, i6, i7, i8, i28, i29, i30], by simp [x_look, j0, j1, j5, o21, o22, o23, i6, i7, i8, i28, i29, i30], by simp [x_look, j0, j1, j5, o21, o22, o23, i6, i7, i8, i28, i29, i30], by simp [x_look, j0, j1, j5, i6, i7, i8, i28, i29, i30], by simp [x_look, j0, j1, j5, i6, i7, i8, i28, i29, i30], by simp [x_look, j0, j1, j5, i6, i7, i8, i28, i29, i30], by simp [x_look, j0, j1, j5, i6, i7, i8, i28, i29, i30], by simp [x_look, j0, j1, j5, i6, i7, i8, i28, i29, i30], by simp [x_look, j0, j1, j5, i6, i7, i8, i28, i29, i30], ?_⟩
      rw [htk]
      exact mul_step (a := 0) hinv (hset lo) hsp
    · have e1 : ¬ ((k : Int) < (B.length : Int)) := by omega
      have hke : k = B.length := by omega
      subst hke
      have e4 : IntKind.i64.wrap ((i : Int) + (B.length : Int)) = ((i + B.length : Nat) : Int) := by rw [wrap_i64 (by omega) (by omega)]; omega
      have e5 : (0 : Int) ≤ ((i + B.length : Nat) : Int) := by omega
      have e6 : ((i + B.length : Nat) : Int) < ((A.length + B.length : Nat) : Int) := by omega
      have e6' : i + B.length < A.length + B.length := by omega
      have e8 : i + B.length + 1 ≤ out.length := by omega
      have e9 : i + B.length < out.length := by omega
      have w4 : IntKind.u32.wrap (c : Int) = (c : Int) := by rw [wrap_u32]; omega
      have w6 := incI (j := i) (by omega)
      have d5 := spl_u32s (l := out) (i := i + B.length) (x := (c : Int)) e9 (by omega)
      have d6 : leafA (.v (.int .u32 (c : Int))) = true := rfl
      simp -implicitDefEqProofs only [go_sem, Nat.reduceAdd, Nat.reduceEqDiff, Nat.reduceLT, reduceIte, reduceCtorEq, Int.reduceLE, Int.reduceLT, Int.reduceEq, Int.reduceAdd, Int.reduceMul, Int.reduceSub, Nat.reduceMul, Nat.reduceSub, Nat.reducePow, Nat.reduceLeDiff, Int.reduceToNat, DD, j0, j1, j5, o21, o22, o23, i6, i7, i8, i28, i29, i30, d1, d2, d3, hlt, e1, e4, e5, e6, e6', e8, e9, w4, w6, d5, d6, List.all_cons, List.all_nil, Bool.and_true, Bool.and_self, Int.toNat_natCast]
      refine ⟨A.length - (i + 1), by omega, _, out.set (i + B.length) c, i + 1, rfl, rfl, by omega, by simp [hlen], Lm_set hLm (by omega), by omega,
        by simp [x_look, j0, j1, j5, o21, o22, o23, i6, i7, i8, i28, i29, i30], by simp [x_look, j0, j1, j5, o21, o22, o23, i6, i7, i8, i28, i29, i30], by simp [x_look, j0, j1, j5, o21, o22, o23, i6, i7, i8, i28, i29, i30], by simp [x_look, j0, j1, j5, o21, o22, o23, i6, i7, i8, i28, i29, i30], by simp [x_look, j0, j1, j5, o21, o22, o23, i6, i7, i8, i28, i29, i30], by simp [x_look, j0, j1, j5, o21, o22, o23, i6, i7, i8, i28, i29, i30], ?_⟩
      rw [show i + 1 + B.length = i + B.length + 1 by omega, nv_set_zero e9, hinv, nv_take_all (l := B) (Nat.le_refl _), nv_take_succ, Nat.add_mul, Nat.mul_assoc]
  · have d1 : ¬ ((i : Int) < (A.length : Int)) := by omega
    have hie : i = A.length := by omega
    subst hie
    simp -implicitDefEqProofs only [go_sem, Nat.reduceAdd, Nat.reduceEqDiff, Nat.reduceLT, reduceIte, reduceCtorEq, Int.reduceLE, Int.reduceLT, Int.reduceEq, Int.reduceAdd, Int.reduceMul, Int.reduceSub, Nat.reduceMul, Nat.reduceSub, Nat.reducePow, Nat.reduceLeDiff, Int.reduceToNat, DD, h0, h1, h5, h21, h22, h23, d1]
    refine callK_u32 nat_cut.call (cut_sat out (by omega)) hlen ?_
    rw [nv_take_all (l := A) (Nat.le_refl _)] at hinv
    rw [nv_take_all (l := out) (by omega)] at hinv
    have e4 : cutL out = lim (nv A * nv B) := by rw [cutL_lim hLm, hinv]
    simp -implicitDefEqProofs only [go_sem, Nat.reduceAdd, Nat.reduceEqDiff, Nat.reduceLT, reduceIte, reduceCtorEq, Int.reduceLE, Int.reduceLT, Int.reduceEq, Int.reduceAdd, Int.reduceMul, Int.reduceSub, Nat.reduceMul, Nat.reduceSub, Nat.reducePow, Nat.reduceLeDiff, Int.reduceToNat, DD, e4]

theorem rtrim_hsat (l : List Nat) (hl : l.length < 4611686018427387904) : HSat CT 85 [.own 1 0 0 l.length] [⟨u32s l, true, true⟩] (fun r H' => r = .own 1 0 0 (cutL l).length ∧ H' = [⟨u32s l, true, true⟩]) := by
  refine hsat_of annulusref1_Trim.ok annulusref1_Trim.call (by simp) ?_
  have DD := annulusref1_Trim.dr
  simp only [drP, drPx, drPt, drR, drS, drT, bodyOf, Tryz.f85, Nat.reduceEqDiff, reduceIte, true_and, and_true] at DD
  simp -implicitDefEqProofs only [go_sem, Nat.reduceAdd, Nat.reduceEqDiff, Nat.reduceLT, reduceIte, reduceCtorEq, Int.reduceLE, Int.reduceLT, Int.reduceEq, Int.reduceAdd, Int.reduceMul, Int.reduceSub, Nat.reduceMul, Nat.reduceSub, Nat.reducePow, Nat.reduceLeDiff, Int.reduceToNat, Tryz.f85, DD]
  refine loop_of aW0_mono (fun n σ => ∃ sl, σ = ⟨sl, [⟨u32s l, true, true⟩]⟩ ∧ n ≤ l.length ∧ look sl 0 = .own 1 0 0 l.length ∧ look sl 3 = I64 (n : Nat) ∧ cutL (l.take n) = cutL l) ?_ (n := l.length) ⟨_, rfl, Nat.le_refl _, by simp only [x_look, reduceIte, Nat.reduceEqDiff], by simp only [x_look, reduceIte, Nat.reduceEqDiff], by rw [List.take_length]⟩
  rintro n _ ⟨sl, rfl, hn, h0, h3, hc⟩
  have hend : cutL (l.take n) = l.take n → n = (cutL l).length := fun e => by
    rw [← hc, e, List.length_take]; omega
  have c10 : (0 : Int) ≤ (n : Int) := by omega
  have c11 : (n : Int) ≤ (l.length : Int) := by omega
  by_cases hn0 : n = 0
  · subst hn0
    have e1 := hend rfl
    simp -implicitDefEqProofs only [go_sem, Nat.reduceAdd, Nat.reduceEqDiff, Nat.reduceLT, reduceIte, reduceCtorEq, Int.reduceLE, Int.reduceLT, Int.reduceEq, Int.reduceAdd, Int.reduceMul, Int.reduceSub, Nat.reduceMul, Nat.reduceSub, Nat.reducePow, Nat.reduceLeDiff, Int.reduceToNat, DD, h0, h3, Int.natCast_zero, Int.lt_irrefl, c11, c10, Nat.zero_le, ← e1]
    omega
  · obtain ⟨k, rfl⟩ : ∃ k, n = k + 1 := ⟨n - 1, by omega⟩
    have hk : k < l.length := by omega
    have c1 : (0 : Int) < ((k + 1 : Nat) : Int) := by omega
    have c2 := decI (j := k) (by omega)
    have c3 : (0 : Int) ≤ (k : Int) := by omega
    have c4 : (k : Int) < (l.length : Int) := by omega
    have c5 := getD_u32s hk
    by_cases hz : l.getD k 0 = 0
    · have c8 : ((l.getD k 0 : Nat) : Int) = 0 := by omega
      simp -implicitDefEqProofs only [go_sem, Nat.reduceAdd, Nat.reduceEqDiff, Nat.reduceLT, reduceIte, reduceCtorEq, Int.reduceLE, Int.reduceLT, Int.reduceEq, Int.reduceAdd, Int.reduceMul, Int.reduceSub, Nat.reduceMul, Nat.reduceSub, Nat.reducePow, Nat.reduceLeDiff, Int.reduceToNat, DD, h0, h3, c1, c2, c3, c4, c5, c8, hk]
      refine ⟨k, by omega, _, rfl, by omega, ?_, ?_, ?_⟩
      · simp [x_look, h0]
      · simp only [x_look, reduceIte]
      · rw [← hc, take_succ_getD l hk, hz, cutL_zero]
    · have c8 : ¬ ((l.getD k 0 : Nat) : Int) = 0 := by omega
      have e1 := hend (by rw [take_succ_getD l hk, cutL_ne _ hz])
      simp -implicitDefEqProofs only [go_sem, Nat.reduceAdd, Nat.reduceEqDiff, Nat.reduceLT, reduceIte, reduceCtorEq, Int.reduceLE, Int.reduceLT, Int.reduceEq, Int.reduceAdd, Int.reduceMul, Int.reduceSub, Nat.reduceMul, Nat.reduceSub, Nat.reducePow, Nat.reduceLeDiff, Int.reduceToNat, DD, h0, h3, c1, c2, c3, c4, c5, c8, c10, c11, hk, hn, ← e1]
theorem cutL_take (l : List Nat) : l.take (cutL l).length = cutL l := by
  induction l with
  | nil => rfl
  | cons x r ih =>
    simp only [cutL]
    cases h : cutL r with
    | nil => by_cases hx : x = 0 <;> simp [hx]
    | cons y s => rw [h] at ih; simp only [List.length_cons, List.take_succ_cons]; rw [← ih]; simp

theorem rmul_satT (A B : List Nat) (ha : Lm A) (hb : Lm B) (hla : A.length < 1099511627776) (hlb : B.length < 1099511627776) : Sat CT true 65 [U32 A, U32 B] (U32 (lim (nv A * nv B))) := by
  refine sat_of_own annulusref1_Mul.ok (by simp) ?_
  have DD := annulusref1_Mul.dr
  simp only [drP, drPx, drPt, drR, drS, drT, bodyOf, Tryz.f65, Nat.reduceEqDiff, reduceIte, true_and, and_true] at DD
  have c1 : IntKind.i64.wrap ((A.length : Int) + (B.length : Int)) = ((A.length + B.length : Nat) : Int) := by rw [wrap_i64 (by omega) (by omega)]; omega
  have c3 := incI (j := A.length + B.length) (by omega)
  have c2 : (0 : Int) ≤ ((A.length + B.length + 1 : Nat) : Int) := by omega
  simp -implicitDefEqProofs only [go_sem, Nat.reduceAdd, Nat.reduceEqDiff, Nat.reduceLT, reduceIte, reduceCtorEq, Int.reduceLE, Int.reduceLT, Int.reduceEq, Int.reduceAdd, Int.reduceMul, Int.reduceSub, Nat.reduceMul, Nat.reduceSub, Nat.reducePow, Nat.reduceLeDiff, Int.reduceToNat, Tryz.f65, DD, c1, c2, c3]
  refine ⟨⟨by omega, by omega⟩, ?_⟩
  refine loop_of aW0_mono (fun m σ => ∃ sl out i, σ = ⟨sl, [⟨u32s out, true, true⟩]⟩ ∧ m = A.length - i ∧ i ≤ A.length ∧ out.length = A.length + B.length + 1 ∧ Lm out ∧ out.getD (A.length + B.length) 0 = 0 ∧
      look sl 0 = .sl A.length (u32s A) ∧ look sl 1 = .sl B.length (u32s B) ∧ look sl 5 = .own 1 0 0 (A.length + B.length + 1) ∧ look sl 6 = I64 (i : Nat) ∧
      nv (out.take (i + B.length)) = nv (A.take i) * nv B) ?_ (n := A.length)
    ⟨_, List.replicate (A.length + B.length + 1) 0, 0, rfl, rfl, by omega, by simp, Lm_rep _, by simp [List.getD_eq_getElem?_getD], by simp [x_look], by simp [x_look], by simp [x_look], by simp [x_look], by rw [List.take_replicate, nv_rep]; simp [nv]⟩
  rintro m _ ⟨sl, out, i, rfl, rfl, hi, hlen, hLm, hz, h0, h1, h5, h23, hinv⟩
  by_cases hlt : i < A.length
  · have d1 : (i : Int) < (A.length : Int) := by omega
    have d2 : (0 : Int) ≤ (i : Int) := by omega
    have d3 := getD_u32s hlt
    simp -implicitDefEqProofs only [go_sem, Nat.reduceAdd, Nat.reduceEqDiff, Nat.reduceLT, reduceIte, reduceCtorEq, Int.reduceLE, Int.reduceLT, Int.reduceEq, Int.reduceAdd, Int.reduceMul, Int.reduceSub, Nat.reduceMul, Nat.reduceSub, Nat.reducePow, Nat.reduceLeDiff, Int.reduceToNat, DD, h0, h1, h5, h23, d1, d2, d3, hlt]
    refine loop_of aW0_mono (fun m σ => ∃ sl out c k, σ = ⟨sl, [⟨u32s out, true, true⟩]⟩ ∧ m = B.length - k ∧ k ≤ B.length ∧ out.length = A.length + B.length + 1 ∧ Lm out ∧ c < 4294967296 ∧ out.getD (A.length + B.length) 0 = 0 ∧
      look sl 0 = .sl A.length (u32s A) ∧ look sl 1 = .sl B.length (u32s B) ∧ look sl 5 = .own 1 0 0 (A.length + B.length + 1) ∧ look sl 6 = I64 (i : Nat) ∧ look sl 6 = I64 (i : Nat) ∧ look sl 7 = W64 (c : Nat) ∧ look sl 8 = I64 (k : Nat) ∧
      nv (out.take (i + B.length)) + 4294967296 ^ (i + k) * c = nv (A.take i) * nv B + 4294967296 ^ i * (A.getD i 0 * nv (B.take k))) ?_ (n := B.length)
      ⟨_, out, 0, 0, rfl, rfl, by omega, hlen, hLm, by omega, hz, by simp [x_look, h0, h1, h5, h23], by simp [x_look, h0, h1, h5, h23], by simp [x_look, h0, h1, h5, h23], by simp [x_look, h0, h1, h5, h23], by simp [x_look, h0, h1, h5, h23], by simp [x_look, h0, h1, h5, h23], by simp [x_look, h0, h1, h5, h23], by simp [nv, hinv]⟩
    clear h0 h1 h5 h23 hinv hlen hLm hz
    clear out
    rintro m _ ⟨sl, out, c, k, rfl, rfl, hk, hlen, hLm, hc, iz, j0, j1, j5, o23, i6, i8, i30, hinv⟩
    by_cases hlt2 : k < B.length
    · have e1 : (k : Int) < (B.length : Int) := by omega
      have e2 : (0 : Int) ≤ (k : Int) := by omega
      have e3 := getD_u32s hlt2
      have e4 : IntKind.i64.wrap ((i : Int) + (k : Int)) = ((i + k : Nat) : Int) := by rw [wrap_i64 (by omega) (by omega)]; omega
      have e5 : (0 : Int) ≤ ((i + k : Nat) : Int) := by omega
      have e6 : ((i + k : Nat) : Int) < ((A.length + B.length + 1 : Nat) : Int) := by omega
      have e6' : i + k < A.length + B.length + 1 := by omega
      have e7 := getD_u32s (l := out) (i := i + k) (by omega)
      have e8 : i + k + 1 ≤ out.length := by omega
      have e9 : i + k < out.length := by omega
      have hx := Lm_getD ha i
      have hy := Lm_getD hb k
      have ho := Lm_getD hLm (i + k)
      have hset := fun v => nv_set_take (l := out) (j := i + k) (n := i + B.length) (v := v) (by omega) (by omega)
      have htk := nv_take_succ B k
      generalize A.getD i 0 = x at *
      generalize B.getD k 0 = y at *
      generalize out.getD (i + k) 0 = z at *
      have hm := mul_lt hx hy
      have w0 : ∀ n : Nat, n < 4294967296 → IntKind.u64.wrap (n : Int) = (n : Int) := fun n hn => wrap_u64 (by omega) (by omega)
      have wx := w0 x hx
      have wy := w0 y hy
      have wz := w0 z ho
      have w1 : IntKind.u64.wrap ((x : Int) * (y : Int)) = ((x * y : Nat) : Int) := by rw [wrap_u64 (by omega) (by rw [← Int.natCast_mul]; omega), Int.natCast_mul]
      have w2 : IntKind.u64.wrap ((c : Int) + ((x * y : Nat) : Int)) = ((c + x * y : Nat) : Int) := by rw [wrap_u64 (by omega) (by omega)]; omega
      have w3 : IntKind.u64.wrap (((c + x * y : Nat) : Int) + (z : Int)) = ((c + z + x * y : Nat) : Int) := by rw [wrap_u64 (by omega) (by omega)]; omega
      have hsp := limb_split (c + z + x * y)
      have w4 := wrap32n (c + z + x * y)
      have w5 := fdiv32 (c + z + x * y)
      have w6 := incI (j := k) (by omega)
      have hlo : (c + z + x * y) % 4294967296 < 4294967296 := Nat.mod_lt _ (by omega)
      have hhi : (c + z + x * y) / 4294967296 < 4294967296 := by omega
      generalize (c + z + x * y) % 4294967296 = lo at *
      generalize (c + z + x * y) / 4294967296 = hi2 at *
      have d5 := spl_u32s (l := out) (i := i + k) (x := (lo : Int)) e9 (by omega)
      have d6 : leafA (.v (.int .u32 (lo : Int))) = true := rfl
      simp -implicitDefEqProofs only [go_sem, Nat.reduceAdd, Nat.reduceEqDiff, Nat.reduceLT, reduceIte, reduceCtorEq, Int.reduceLE, Int.reduceLT, Int.reduceEq, Int.reduceAdd, Int.reduceMul, Int.reduceSub, Nat.reduceMul, Nat.reduceSub, Nat.reducePow, Nat.reduceLeDiff, Int.reduceToNat, DD, j0, j1, j5, o23, i6, i8, i30, d1, d2, d3, hlt, hlt2, e1, e2, e3, e4, e5, e6, e6', e7, e8, e9, wx, wy, wz, w1, w2, w3, w4, w5, w6, d5, d6, List.all_cons, List.all_nil, Bool.and_true, Bool.and_self, Int.toNat_natCast]
      refine ⟨B.length - (k + 1), by omega, _, out.set (i + k) lo, hi2, k + 1, rfl, rfl, by omega, by simp [hlen], Lm_set hLm (by omega), by omega, by rw [getD_set_ne (by omega)]; exact iz,
        by simp [x_look, j0, j1, j5, o23, i6, i8, i30], by simp [x_look, j0, j1, j5, o23, i6, i8, i30], by simp [x_look, j0, j1, j5, o23, i6, i8, i30], by simp [x_look, j0, j1, j5, o23, i6, i8, i30], by simp [x_look, j0, j1, j5, i6, i8, i30], by simp [x_look, j0, j1, j5, i6, i8, i30], by simp [x_look, j0, j1, j5, i6, i8, i30], ?_⟩
      rw [htk]
      exact mul_step (a := 0) hinv (hset lo) hsp
    · have e1 : ¬ ((k : Int) < (B.length : Int)) := by omega
      have hke : k = B.length := by omega
      subst hke
      have e4 : IntKind.i64.wrap ((i : Int) + (B.length : Int)) = ((i + B.length : Nat) : Int) := by rw [wrap_i64 (by omega) (by omega)]; omega
      have e5 : (0 : Int) ≤ ((i + B.length : Nat) : Int) := by omega
      have e6 : ((i + B.length : Nat) : Int) < ((A.length + B.length + 1 : Nat) : Int) := by omega
      have e6' : i + B.length < A.length + B.length + 1 := by omega
      have e8 : i + B.length + 1 ≤ out.length := by omega
      have e9 : i + B.length < out.length := by omega
      have w4 : IntKind.u32.wrap (c : Int) = (c : Int) := by rw [wrap_u32]; omega
      have w6 := incI (j := i) (by omega)
      have d5 := spl_u32s (l := out) (i := i + B.length) (x := (c : Int)) e9 (by omega)
      have d6 : leafA (.v (.int .u32 (c : Int))) = true := rfl
      simp -implicitDefEqProofs only [go_sem, Nat.reduceAdd, Nat.reduceEqDiff, Nat.reduceLT, reduceIte, reduceCtorEq, Int.reduceLE, Int.reduceLT, Int.reduceEq, Int.reduceAdd, Int.reduceMul, Int.reduceSub, Nat.reduceMul, Nat.reduceSub, Nat.reducePow, Nat.reduceLeDiff, Int.reduceToNat, DD, j0, j1, j5, o23, i6, i8, i30, d1, d2, d3, hlt, e1, e4, e5, e6, e6', e8, e9, w4, w6, d5, d6, List.all_cons, List.all_nil, Bool.and_true, Bool.and_self, Int.toNat_natCast]
      refine ⟨A.length - (i + 1), by omega, _, out.set (i + B.length) c, i + 1, rfl, rfl, by omega, by simp [hlen], Lm_set hLm (by omega), by rw [getD_set_ne (by omega)]; exact iz,
        by simp [x_look, j0, j1, j5, o23, i6, i8, i30], by simp [x_look, j0, j1, j5, o23, i6, i8, i30], by simp [x_look, j0, j1, j5, o23, i6, i8, i30], by simp [x_look, j0, j1, j5, o23, i6, i8, i30], ?_⟩
      rw [show i + 1 + B.length = i + B.length + 1 by omega, nv_set_zero e9, hinv, nv_take_all (l := B) (Nat.le_refl _), nv_take_succ, Nat.add_mul, Nat.mul_assoc]
  · have d1 : ¬ ((i : Int) < (A.length : Int)) := by omega
    have hie : i = A.length := by omega
    subst hie
    simp -implicitDefEqProofs only [go_sem, Nat.reduceAdd, Nat.reduceEqDiff, Nat.reduceLT, reduceIte, reduceCtorEq, Int.reduceLE, Int.reduceLT, Int.reduceEq, Int.reduceAdd, Int.reduceMul, Int.reduceSub, Nat.reduceMul, Nat.reduceSub, Nat.reducePow, Nat.reduceLeDiff, Int.reduceToNat, DD, h0, h1, h5, h23, d1]
    rw [nv_take_all (l := A) (Nat.le_refl _)] at hinv
    have hinv := hinv
    have q1 := nv_take_succ out (A.length + B.length)
    rw [hz, nv_take_all (l := out) (by omega)] at q1
    have hinv : nv out = nv A * nv B := by rw [q1, hinv, Nat.mul_zero, Nat.add_zero]
    have e4 : cutL out = lim (nv A * nv B) := by rw [cutL_lim hLm, hinv]
    rw [← hlen]
    refine callK_own (rtrim_hsat out (by omega)) ?_
    rintro _ _ ⟨rfl, rfl⟩
    have e5 := cutL_length out
    have e6 := cutL_take out
    simp -implicitDefEqProofs only [go_sem, Nat.reduceAdd, Nat.reduceEqDiff, Nat.reduceLT, reduceIte, reduceCtorEq, Int.reduceLE, Int.reduceLT, Int.reduceEq, Int.reduceAdd, Int.reduceMul, Int.reduceSub, Nat.reduceMul, Nat.reduceSub, Nat.reducePow, Nat.reduceLeDiff, Int.reduceToNat, DD]
    rw [← e4]
    refine ⟨1, 0, 0, rfl, rfl, ?_, ?_⟩
    · simp [hd]; omega
    · simp [hd, take_u32s, e6]
theorem rmul_sat (A B : List Nat) (ha : Lm A) (hb : Lm B) (hla : A.length < 1099511627776) (hlb : B.length < 1099511627776) : Sat CT false 65 [U32 A, U32 B] (U32 (lim (nv A * nv B))) := (rmul_satT A B ha hb hla hlb).forget
end Go.Ab

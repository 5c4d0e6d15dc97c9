/- Contracts of this seat's functions (of each call: what it answers), walked over the abstract machine, and the laws of numbers that they want. Conditions: those that each theorem states. -/
import Derived.Test.YtdkdpebfnddfpaaGreatDoorN14
set_option linter.unusedVariables false
set_option maxRecDepth 20000
set_option linter.unusedSimpArgs false
namespace Go.Ab
open Go.Proofs

/-- A call with limbs and a new row of limbs. -/
theorem callK_new {f : FuncId} {a m : List Nat} {o : AObj} {G : Heap} {r : AV} {K : AV → Heap → Prop} (hc : callable CT.P f = true) (hs : Sat CT false f [U32 a, U32 m] r) {n g : Nat} (hn : m.length = n) (hg : G.length + 1 = g) (hK : K r (o :: (G ++ [⟨u32s m, true, false⟩]))) :
    callK CT false f [.sl a.length (u32s a), .own 1 g 0 n] (o :: (G ++ [⟨u32s m, true, true⟩])) K := by
  subst hn hg
  have e : ∀ (b : Bool), hd (o :: (G ++ [⟨u32s m, true, b⟩])) (G.length + 1) = ⟨u32s m, true, b⟩ := fun b => by
    simp only [hd, List.getD_cons_succ]
    simp [List.getD_eq_getElem?_getD]
  refine callK_of (H' := o :: (G ++ [⟨u32s m, true, false⟩])) false hc hs ?_ ?_ ?_ (by simp [U32, isD_u32]) hK
  · show fz _ _ = _
    unfold fz
    rw [e]
    simp
  · simp only [List.map_cons, List.map_nil, snap_sl, snap_own, e, List.drop_zero, Nat.mul_one, take_u32s, List.take_length, snap0_u32s, U32]
  · simp only [List.mem_cons, List.not_mem_nil, or_false, forall_eq_or_imp, forall_eq, ownOK, e]
    simp
theorem x_one : ([.v (.int .u32 1)] : List AV) = u32s [1] := rfl

theorem rdiv_sat (a b : List Nat) (ha : Lm a) (hb : Lm b) (hla : a.length < 1099511627) (hlb : b.length < 1099511627) (hb0 : nv b ≠ 0) : Sat CT false 123 [U32 a, U32 b] (.tup [U32 (lim (nv a / nv b)), U32 (lim (nv a % nv b)), Bo true]) := by
  refine sat_of annulusref1_Div.ok (by simp) ?_
  have DD := annulusref1_Div.dr
  simp only [drP, drPx, drPt, drR, drS, drT, bodyOf, Tryz.f123, Nat.reduceEqDiff, reduceIte, true_and, and_true] at DD
  simp -implicitDefEqProofs only [go_sem, Nat.reduceAdd, Nat.reduceEqDiff, Nat.reduceLT, reduceIte, reduceCtorEq, Int.reduceLE, Int.reduceLT, Int.reduceEq, Int.reduceAdd, Int.reduceMul, Int.reduceSub, Nat.reduceMul, Nat.reduceSub, Nat.reducePow, Nat.reduceLeDiff, Int.reduceToNat, Tryz.f123, DD]
  refine callK_of false annulusref1_Trim.call (rtrim_sat a (by omega)) rfl rfl (by simp [ownOK]) (by simp [U32, isD_u32, IsD.v]) ?_
  simp -implicitDefEqProofs only [go_sem, Nat.reduceAdd, Nat.reduceEqDiff, Nat.reduceLT, reduceIte, reduceCtorEq, Int.reduceLE, Int.reduceLT, Int.reduceEq, Int.reduceAdd, Int.reduceMul, Int.reduceSub, Nat.reduceMul, Nat.reduceSub, Nat.reducePow, Nat.reduceLeDiff, Int.reduceToNat, DD]
  refine callK_of false annulusref1_Trim.call (rtrim_sat b (by omega)) rfl rfl (by simp [ownOK]) (by simp [U32, isD_u32, IsD.v]) ?_
  have e1 := cutL_length a
  have e2 := cutL_length b
  have f1 := cutL_lim ha
  have f2 := cutL_lim hb
  have f3 := nv_cutL a
  have f4 := nv_cutL b
  have ha := Lm_cutL ha
  have hb := Lm_cutL hb
  rw [← f4] at hb0
  rw [← f3, ← f4]
  rw [← f3] at f1
  rw [← f4] at f2
  generalize cutL a = A at *
  generalize cutL b = B at *
  have hlA : A.length < 1099511627 := by omega
  have hlB : B.length < 1099511627 := by omega
  clear f3 f4 e1 e2 hla hlb
  have hB : B.length ≠ 0 := fun h => hb0 (nv_nil_of h)
  have hbp : 0 < nv B := by omega
  have c1 : ¬ ((B.length : Int) = 0) := by omega
  have c2 : (0 : Int) ≤ (A.length : Int) := by omega
  simp -implicitDefEqProofs only [go_sem, Nat.reduceAdd, Nat.reduceEqDiff, Nat.reduceLT, reduceIte, reduceCtorEq, Int.reduceLE, Int.reduceLT, Int.reduceEq, Int.reduceAdd, Int.reduceMul, Int.reduceSub, Nat.reduceMul, Nat.reduceSub, Nat.reducePow, Nat.reduceLeDiff, Int.reduceToNat, DD, c1, c2]
  refine ⟨⟨by omega, by omega⟩, ?_⟩
  have hbl := bl_nv_le ha
  have hbn := bl_lt (nv A)
  refine callK_of false annulusref1_Bits.call (rbits_sat A ha (by omega)) rfl rfl (by simp [ownOK]) (by simp [U32, isD_u32, IsD.v]) ?_
  generalize hn : bl (nv A) = n at *
  have w1 : IntKind.i64.wrap ((n : Int) - 1) = (n : Int) - 1 := wrap_i64 (by omega) (by omega)
  simp -implicitDefEqProofs only [go_sem, Nat.reduceAdd, Nat.reduceEqDiff, Nat.reduceLT, reduceIte, reduceCtorEq, Int.reduceLE, Int.reduceLT, Int.reduceEq, Int.reduceAdd, Int.reduceMul, Int.reduceSub, Nat.reduceMul, Nat.reduceSub, Nat.reducePow, Nat.reduceLeDiff, Int.reduceToNat, DD, w1]
  refine loop_of aW0_mono (fun m σ => ∃ sl Q G rv, σ = ⟨sl, ⟨u32s Q, true, true⟩ :: G⟩ ∧ m ≤ n ∧ Q.length = A.length ∧ Lm Q ∧ NilOr rv (lim (nv A / 2 ^ m % nv B)) ∧
    look sl 7 = .sl A.length (u32s A) ∧ look sl 8 = .sl B.length (u32s B) ∧ look sl 9 = .own 1 0 0 A.length ∧ look sl 10 = rv ∧ look sl 11 = I64 ((m : Int) - 1) ∧
    nv Q = 2 ^ m * (nv A / 2 ^ m / nv B)) ?_ (n := n)
    ⟨_, List.replicate A.length 0, [], _, rfl, Nat.le_refl _, by simp, Lm_rep _, .inr ⟨rfl, by rw [Nat.div_eq_of_lt hbn, Nat.zero_mod, lim_zero]⟩, by simp [x_look], by simp [x_look], by simp [x_look], by simp [x_look], by simp [x_look], by rw [nv_rep, Nat.div_eq_of_lt hbn, Nat.zero_div, Nat.mul_zero]⟩
  clear hbn
  rintro m _ ⟨sl, Q, G, rv, rfl, hm, hQl, hQ, hrv, h7, h8, h9, h10, h11, hinv⟩
  cases m with
  | zero =>
    have d1 : ¬ ((0 : Int) ≤ ((0 : Nat) : Int) - 1) := by omega
    rw [Nat.pow_zero, Nat.one_mul, Nat.div_one] at hinv
    rw [Nat.pow_zero, Nat.div_one] at hrv
    have e4 : cutL Q = lim (nv A / nv B) := by rw [cutL_lim hQ, hinv]
    simp -implicitDefEqProofs only [go_sem, Nat.reduceAdd, Nat.reduceEqDiff, Nat.reduceLT, reduceIte, reduceCtorEq, Int.reduceLE, Int.reduceLT, Int.reduceEq, Int.reduceAdd, Int.reduceMul, Int.reduceSub, Nat.reduceMul, Nat.reduceSub, Nat.reducePow, Nat.reduceLeDiff, Int.reduceToNat, DD, h7, h8, h9, h10, h11, d1]
    refine callK_of (H' := ⟨u32s Q, true, false⟩ :: G) false annulusref1_Trim.call (rtrim_sat Q (by omega)) rfl (by simp only [List.map_cons, List.map_nil, snap_own, hd, List.getD_cons_zero, List.drop_zero, Nat.mul_one, take_u32s, ← hQl, List.take_length, snap0_u32s, U32]) (by simp [ownOK, hd, hQl]) (by simp [U32, isD_u32]) ?_
    rw [e4]
    rcases hrv with rfl | ⟨rfl, e5⟩
    · simp -implicitDefEqProofs only [go_sem, Nat.reduceAdd, Nat.reduceEqDiff, Nat.reduceLT, reduceIte, reduceCtorEq, Int.reduceLE, Int.reduceLT, Int.reduceEq, Int.reduceAdd, Int.reduceMul, Int.reduceSub, Nat.reduceMul, Nat.reduceSub, Nat.reducePow, Nat.reduceLeDiff, Int.reduceToNat, DD, h7, h8, h9, h10, h11, d1]
    · simp -implicitDefEqProofs only [go_sem, Nat.reduceAdd, Nat.reduceEqDiff, Nat.reduceLT, reduceIte, reduceCtorEq, Int.reduceLE, Int.reduceLT, Int.reduceEq, Int.reduceAdd, Int.reduceMul, Int.reduceSub, Nat.reduceMul, Nat.reduceSub, Nat.reducePow, Nat.reduceLeDiff, Int.reduceToNat, DD, h7, h8, h9, h10, h11, d1, e5]
      rfl
  | succ i =>
    have d0 : ((i + 1 : Nat) : Int) - 1 = (i : Int) := by omega
    rw [d0] at h11
    have d1 : (0 : Int) ≤ (i : Int) := by omega
    have hR := Nat.mod_lt (nv A / 2 ^ (i + 1)) hbp
    have hstep := fun c (hc : c < 2) => rdiv_step (a := nv A / 2 ^ (i + 1)) (c := c) hbp rfl rfl hc
    have hhalf := div_pow_succ (nv A) i
    have hQb : (nv Q).testBit i = false := testBit_dvd (m := i + 1) ⟨_, hinv⟩ (by omega)
    generalize nv A / 2 ^ (i + 1) % nv B = R at *
    have hBlt := nv_lt hb
    have hRl : (lim (2 * R)).length ≤ B.length + 1 ∧ (lim (2 * R + 1)).length ≤ B.length + 1 ∧ (lim R).length ≤ B.length := by
      refine ⟨lim_length_le ?_, lim_length_le ?_, lim_length_le (by omega)⟩
      · rw [Nat.pow_succ]; generalize 4294967296 ^ B.length = P at *; omega
      · rw [Nat.pow_succ]; generalize 4294967296 ^ B.length = P at *; omega
    obtain ⟨l1, l2, l3⟩ := hRl
    clear hBlt
    obtain ⟨k, s, hs, rfl⟩ : ∃ k s, s < 32 ∧ i = 32 * k + s := ⟨i / 32, i % 32, by omega, by omega⟩
    have hkA : k < A.length := by omega
    obtain ⟨hq1, hq2, hq3⟩ := set_bit (k := k) hQ hs (by omega) hQb
    generalize hii : 32 * k + s = i at *
    have hn62 : n < 4611686018427387904 := by omega
    have k1 : IntKind.i64.wrap ((i : Int).tdiv 32) = (k : Int) := by
      rw [Int.tdiv_eq_ediv_of_nonneg (by omega), wrap_i64 (by omega) (by omega)]; omega
    have k2 : (i : Int).tmod 32 = (s : Int) := by rw [Int.tmod_eq_emod_of_nonneg (by omega)]; omega
    have k3 : IntKind.u64.wrap (s : Int) = (s : Int) := wrap64n (by omega)
    have k4 : min s 32 = s := by omega
    have k5 : (0 : Int) ≤ (s : Int) := by omega
    have hp32 : 2 ^ s < 2 ^ 32 := Nat.pow_lt_pow_right (by omega) hs
    replace hp32 : 2 ^ s < 4294967296 := hp32
    have k6 : IntKind.u32.wrap ((1 : Int) * 2 ^ s) = ((2 ^ s : Nat) : Int) := by
      rw [show (1 : Int) * 2 ^ s = ((2 ^ s : Nat) : Int) by simp]; rw [wrap_u32]; generalize 2 ^ s = ps at *; omega
    have k7 : (0 : Int) ≤ (k : Int) := by omega
    have k8 : (k : Int) < (A.length : Int) := by omega
    have k9 := getD_u32s (l := Q) (i := k) (by omega)
    have k10 : k < Q.length := by omega
    have k11 : k + 1 ≤ Q.length := by omega
    have k12 := or32 (Lm_getD hQ k) hp32
    rw [or_bit hq1] at k12
    have k13 := spl_u32s (l := Q) (i := k) (x := ((Q.getD k 0 + 2 ^ s : Nat) : Int)) (by omega) (Int.natCast_nonneg _)
    rw [Int.toNat_natCast] at k13
    have k14 : leafA (.v (.int .u32 ((Q.getD k 0 + 2 ^ s : Nat) : Int))) = true := rfl
    have k15 : IntKind.i64.wrap ((i : Int) - 1) = (i : Int) - 1 := wrap_i64 (by omega) (by omega)
    have hsl := rshl_sat (lim R) 1 (Lm_lim _) (by omega)
    rw [nv_lim, show shN 1 = 1 from rfl, Nat.pow_one, Nat.mul_comm] at hsl
    simp -implicitDefEqProofs only [go_sem, Nat.reduceAdd, Nat.reduceEqDiff, Nat.reduceLT, reduceIte, reduceCtorEq, Int.reduceLE, Int.reduceLT, Int.reduceEq, Int.reduceAdd, Int.reduceMul, Int.reduceSub, Nat.reduceMul, Nat.reduceSub, Nat.reducePow, Nat.reduceLeDiff, Int.reduceToNat, DD, h7, h8, h9, h10, h11, d1]
    refine callK_nil1 hrv annulusref1_Shl.call hsl ?_
    simp -implicitDefEqProofs only [go_sem, Nat.reduceAdd, Nat.reduceEqDiff, Nat.reduceLT, reduceIte, reduceCtorEq, Int.reduceLE, Int.reduceLT, Int.reduceEq, Int.reduceAdd, Int.reduceMul, Int.reduceSub, Nat.reduceMul, Nat.reduceSub, Nat.reducePow, Nat.reduceLeDiff, Int.reduceToNat, DD, h7, h8, h9, h10, h11, d1]
    refine callK_of false annulusref1_Bit.call (rbit_sat A i ha (by omega) (by omega)) rfl rfl (by simp [ownOK]) (by simp [U32, isD_u32, isD_v]) ?_
    by_cases cb : (nv A).testBit i = true
    · rw [if_pos cb] at hhalf
      have had := radd_sat (lim (2 * R)) [1] (Lm_lim _) (by intro x hx; simp at hx; omega) (by omega) (by simp)
      rw [nv_lim, show nv [1] = 1 from rfl] at had
      simp -implicitDefEqProofs only [go_sem, Nat.reduceAdd, Nat.reduceEqDiff, Nat.reduceLT, reduceIte, reduceCtorEq, Int.reduceLE, Int.reduceLT, Int.reduceEq, Int.reduceAdd, Int.reduceMul, Int.reduceSub, Nat.reduceMul, Nat.reduceSub, Nat.reducePow, Nat.reduceLeDiff, Int.reduceToNat, DD, h7, h8, h9, h10, h11, d1, cb]
      refine callK_new (m := [1]) annulusref1_Add.call had rfl rfl ?_
      clear hsl
      have hcm := rcmp_sat (lim (2 * R + 1)) B (Lm_lim _) hb (by omega) (by omega)
      rw [nv_lim] at hcm
      simp -implicitDefEqProofs only [go_sem, Nat.reduceAdd, Nat.reduceEqDiff, Nat.reduceLT, reduceIte, reduceCtorEq, Int.reduceLE, Int.reduceLT, Int.reduceEq, Int.reduceAdd, Int.reduceMul, Int.reduceSub, Nat.reduceMul, Nat.reduceSub, Nat.reducePow, Nat.reduceLeDiff, Int.reduceToNat, DD, h7, h8, h9, h10, h11, d1, cb]
      refine callK_of false annulusref1_Cmp.call hcm rfl rfl (by simp [ownOK]) (by simp [U32, isD_u32, isD_v]) ?_
      obtain ⟨st1, st2⟩ := hstep 1 (by omega)
      by_cases hge : nv B ≤ 2 * R + 1
      · obtain ⟨s1, s2⟩ := st1 hge
        rw [← hhalf] at s1 s2
        have c5 := cmpN_nonneg.mpr hge
        have hsub := rsub_ok (lim (2 * R + 1)) B (Lm_lim _) hb (by omega) (by omega) (by rw [nv_lim]; exact hge)
        rw [nv_lim] at hsub
        simp -implicitDefEqProofs only [go_sem, Nat.reduceAdd, Nat.reduceEqDiff, Nat.reduceLT, reduceIte, reduceCtorEq, Int.reduceLE, Int.reduceLT, Int.reduceEq, Int.reduceAdd, Int.reduceMul, Int.reduceSub, Nat.reduceMul, Nat.reduceSub, Nat.reducePow, Nat.reduceLeDiff, Int.reduceToNat, DD, h7, h8, h9, h10, h11, d1, cb, c5]
        refine callK_of false annulusref1_Sub.call hsub rfl rfl (by simp [ownOK]) (by simp [U32, isD_u32, isD_v]) ?_
        simp -implicitDefEqProofs only [go_sem, Nat.reduceAdd, Nat.reduceEqDiff, Nat.reduceLT, reduceIte, reduceCtorEq, Int.reduceLE, Int.reduceLT, Int.reduceEq, Int.reduceAdd, Int.reduceMul, Int.reduceSub, Nat.reduceMul, Nat.reduceSub, Nat.reducePow, Nat.reduceLeDiff, Int.reduceToNat, DD, h7, h8, h9, h10, h11, d1, cb, c5, k1, k2, k3, k4, k5, k6, k7, k8, k9, k10, k11, k12, k13, k14, k15, List.all_cons, List.all_nil, Bool.and_true, Bool.and_self]
        refine ⟨i, by omega, _, _, _, _, rfl, by omega, by simp [hQl], Lm_set hQ hq2, .inl (by rw [s2]), by simp [x_look, h7], by simp [x_look, h8], by simp [x_look, h9], by simp [x_look, U32], by simp [x_look], ?_⟩
        rw [hq3, s1, hinv, Nat.pow_succ, Nat.mul_add, Nat.mul_one, Nat.mul_assoc]
      · obtain ⟨s1, s2⟩ := st2 hge
        rw [← hhalf] at s1 s2
        have c5 : ¬ (0 ≤ cmpN (2 * R + 1) (nv B)) := fun h => hge (cmpN_nonneg.mp h)
        simp -implicitDefEqProofs only [go_sem, Nat.reduceAdd, Nat.reduceEqDiff, Nat.reduceLT, reduceIte, reduceCtorEq, Int.reduceLE, Int.reduceLT, Int.reduceEq, Int.reduceAdd, Int.reduceMul, Int.reduceSub, Nat.reduceMul, Nat.reduceSub, Nat.reducePow, Nat.reduceLeDiff, Int.reduceToNat, DD, h7, h8, h9, h10, h11, d1, cb, c5, k1, k2, k3, k4, k5, k6, k7, k8, k9, k10, k11, k12, k13, k14, k15, List.all_cons, List.all_nil, Bool.and_true, Bool.and_self]
        refine ⟨i, by omega, _, _, _, _, rfl, by omega, by simp [hQl], hQ, .inl (by rw [s2]), by simp [x_look, h7], by simp [x_look, h8], by simp [x_look, h9], by simp [x_look, U32], by simp [x_look], ?_⟩
        rw [s1, hinv, Nat.pow_succ, Nat.mul_assoc]
    · have cb : (nv A).testBit i = false := by simpa using cb
      have hhalf : nv A / 2 ^ i = 2 * (nv A / 2 ^ (i + 1)) + 0 := by rw [hhalf, cb]; rfl
      clear hsl
      have hcm := rcmp_sat (lim (2 * R)) B (Lm_lim _) hb (by omega) (by omega)
      rw [nv_lim] at hcm
      simp -implicitDefEqProofs only [go_sem, Nat.reduceAdd, Nat.reduceEqDiff, Nat.reduceLT, reduceIte, reduceCtorEq, Int.reduceLE, Int.reduceLT, Int.reduceEq, Int.reduceAdd, Int.reduceMul, Int.reduceSub, Nat.reduceMul, Nat.reduceSub, Nat.reducePow, Nat.reduceLeDiff, Int.reduceToNat, DD, h7, h8, h9, h10, h11, d1, cb]
      refine callK_of false annulusref1_Cmp.call hcm rfl rfl (by simp [ownOK]) (by simp [U32, isD_u32, isD_v]) ?_
      obtain ⟨st1, st2⟩ := hstep 0 (by omega)
      by_cases hge : nv B ≤ 2 * R
      · obtain ⟨s1, s2⟩ := st1 hge
        rw [← hhalf] at s1 s2
        have c5 := cmpN_nonneg.mpr hge
        have hsub := rsub_ok (lim (2 * R)) B (Lm_lim _) hb (by omega) (by omega) (by rw [nv_lim]; exact hge)
        rw [nv_lim] at hsub
        simp -implicitDefEqProofs only [go_sem, Nat.reduceAdd, Nat.reduceEqDiff, Nat.reduceLT, reduceIte, reduceCtorEq, Int.reduceLE, Int.reduceLT, Int.reduceEq, Int.reduceAdd, Int.reduceMul, Int.reduceSub, Nat.reduceMul, Nat.reduceSub, Nat.reducePow, Nat.reduceLeDiff, Int.reduceToNat, DD, h7, h8, h9, h10, h11, d1, cb, c5]
        refine callK_of false annulusref1_Sub.call hsub rfl rfl (by simp [ownOK]) (by simp [U32, isD_u32, isD_v]) ?_
        simp -implicitDefEqProofs only [go_sem, Nat.reduceAdd, Nat.reduceEqDiff, Nat.reduceLT, reduceIte, reduceCtorEq, Int.reduceLE, Int.reduceLT, Int.reduceEq, Int.reduceAdd, Int.reduceMul, Int.reduceSub, Nat.reduceMul, Nat.reduceSub, Nat.reducePow, Nat.reduceLeDiff, Int.reduceToNat, DD, h7, h8, h9, h10, h11, d1, cb, c5, k1, k2, k3, k4, k5, k6, k7, k8, k9, k10, k11, k12, k13, k14, k15, List.all_cons, List.all_nil, Bool.and_true, Bool.and_self]
        refine ⟨i, by omega, _, _, _, _, rfl, by omega, by simp [hQl], Lm_set hQ hq2, .inl (by rw [s2]), by simp [x_look, h7], by simp [x_look, h8], by simp [x_look, h9], by simp [x_look, U32], by simp [x_look], ?_⟩
        rw [hq3, s1, hinv, Nat.pow_succ, Nat.mul_add, Nat.mul_one, Nat.mul_assoc]
      · obtain ⟨s1, s2⟩ := st2 hge
        rw [← hhalf] at s1 s2
        have c5 : ¬ (0 ≤ cmpN (2 * R) (nv B)) := fun h => hge (cmpN_nonneg.mp h)
        simp -implicitDefEqProofs only [go_sem, Nat.reduceAdd, Nat.reduceEqDiff, Nat.reduceLT, reduceIte, reduceCtorEq, Int.reduceLE, Int.reduceLT, Int.reduceEq, Int.reduceAdd, Int.reduceMul, Int.reduceSub, Nat.reduceMul, Nat.reduceSub, Nat.reducePow, Nat.reduceLeDiff, Int.reduceToNat, DD, h7, h8, h9, h10, h11, d1, cb, c5, k1, k2, k3, k4, k5, k6, k7, k8, k9, k10, k11, k12, k13, k14, k15, List.all_cons, List.all_nil, Bool.and_true, Bool.and_self]
        refine ⟨i, by omega, _, _, _, _, rfl, by omega, by simp [hQl], hQ, .inl (by rw [s2]), by simp [x_look, h7], by simp [x_look, h8], by simp [x_look, h9], by simp [x_look, U32], by simp [x_look], ?_⟩
        rw [s1, hinv, Nat.pow_succ, Nat.mul_assoc]
end Go.Ab

/- Contracts of this seat's functions (of each call: what it answers), walked over the abstract machine, and the laws of numbers that they want. Conditions: those that each theorem states. -/
import Derived.Test.YtdkdpebfnddfpaaGreatDoorN12
set_option linter.unusedVariables false
set_option maxRecDepth 20000
set_option linter.unusedSimpArgs false
namespace Go.Ab
open Go.Proofs

theorem cmpN_neg {x y : Nat} : cmpN x y < 0 ↔ x < y := by
  unfold cmpN
  constructor
  · intro h
    by_cases q : x < y
    · exact q
    · rw [if_neg q] at h; split at h <;> omega
  · intro h; rw [if_pos h]; decide

theorem div_sat (a b : List Nat) (ha : Lm a) (hb : Lm b) (hla : a.length < 1099511627) (hlb : b.length < 1099511627) (hb0 : nv b ≠ 0) : Sat CT false 91 [U32 a, U32 b] (.tup [U32 (lim (nv a / nv b)), U32 (lim (nv a % nv b)), Bo true]) := by
  refine sat_of nat_Div.ok (by simp) ?_
  have DD := nat_Div.dr
  simp only [drP, drPx, drPt, drR, drS, drT, bodyOf, Tryz.f91, Nat.reduceEqDiff, reduceIte, true_and, and_true] at DD
  simp -implicitDefEqProofs only [go_sem, Nat.reduceAdd, Nat.reduceEqDiff, Nat.reduceLT, reduceIte, reduceCtorEq, Int.reduceLE, Int.reduceLT, Int.reduceEq, Int.reduceAdd, Int.reduceMul, Int.reduceSub, Nat.reduceMul, Nat.reduceSub, Nat.reducePow, Nat.reduceLeDiff, Int.reduceToNat, Tryz.f91, DD]
  refine callK_of false nat_cut.call (cut_sat a (by omega)) rfl rfl (by simp [ownOK]) (by simp [U32, isD_u32, IsD.v]) ?_
  simp -implicitDefEqProofs only [go_sem, Nat.reduceAdd, Nat.reduceEqDiff, Nat.reduceLT, reduceIte, reduceCtorEq, Int.reduceLE, Int.reduceLT, Int.reduceEq, Int.reduceAdd, Int.reduceMul, Int.reduceSub, Nat.reduceMul, Nat.reduceSub, Nat.reducePow, Nat.reduceLeDiff, Int.reduceToNat, DD]
  refine callK_of false nat_cut.call (cut_sat b (by omega)) rfl rfl (by simp [ownOK]) (by simp [U32, isD_u32, IsD.v]) ?_
  have e1 := cutL_length a
  have e2 := cutL_length b
  have f1 := cutL_lim ha
  have f2 := cutL_lim hb
  have f3 := nv_cutL a
  have f4 := nv_cutL b
  have ha := Lm_cutL ha
  have hb := Lm_cutL hb
  have ht := fun k => cut_top (l := b) (k := k)
  rw [← f4] at hb0
  rw [← f3, ← f4]
  rw [← f3] at f1
  rw [← f4] at f2
  generalize cutL a = A at *
  generalize cutL b = B at *
  have hB : B.length ≠ 0 := fun h => hb0 (nv_nil_of h)
  have c1 : ¬ ((B.length : Int) = 0) := by omega
  simp -implicitDefEqProofs only [go_sem, Nat.reduceAdd, Nat.reduceEqDiff, Nat.reduceLT, reduceIte, reduceCtorEq, Int.reduceLE, Int.reduceLT, Int.reduceEq, Int.reduceAdd, Int.reduceMul, Int.reduceSub, Nat.reduceMul, Nat.reduceSub, Nat.reducePow, Nat.reduceLeDiff, Int.reduceToNat, DD, c1]
  refine callK_of false nat_Cmp.call (cmp_sat A B ha hb (by omega) (by omega)) rfl rfl (by simp [ownOK]) (by simp [U32, isD_u32, IsD.v]) ?_
  by_cases hlt : nv A < nv B
  · have c2 := cmpN_neg.mpr hlt
    have z1 : lim (nv A / nv B) = [] := lim_of_zero (Nat.div_eq_of_lt hlt)
    have z2 : lim (nv A % nv B) = A := by rw [Nat.mod_eq_of_lt hlt]; exact f1.symm
    simp -implicitDefEqProofs only [go_sem, Nat.reduceAdd, Nat.reduceEqDiff, Nat.reduceLT, reduceIte, reduceCtorEq, Int.reduceLE, Int.reduceLT, Int.reduceEq, Int.reduceAdd, Int.reduceMul, Int.reduceSub, Nat.reduceMul, Nat.reduceSub, Nat.reducePow, Nat.reduceLeDiff, Int.reduceToNat, DD, c2, z1, z2]
    refine callK_of false slices_Clone_uint32_uint32.call (clone_sat A (by omega)) rfl rfl (by simp [ownOK]) (by simp [U32, isD_u32]) ?_
    simp -implicitDefEqProofs only [go_sem, Nat.reduceAdd, Nat.reduceEqDiff, Nat.reduceLT, reduceIte, reduceCtorEq, Int.reduceLE, Int.reduceLT, Int.reduceEq, Int.reduceAdd, Int.reduceMul, Int.reduceSub, Nat.reduceMul, Nat.reduceSub, Nat.reducePow, Nat.reduceLeDiff, Int.reduceToNat, DD]
    rfl
  · have c2 : ¬ (cmpN (nv A) (nv B) < 0) := fun h => hlt (cmpN_neg.mp h)
    by_cases h1 : B.length = 1
    · have c3 : (B.length : Int) = 1 := by omega
      have c4 : (0 : Int) < (B.length : Int) := by omega
      have c5 := getD_u32s (l := B) (i := 0) (by omega)
      have c6 : 0 < B.length := by omega
      have hd0 := Lm_getD hb 0
      have hB1 : nv B = B.getD 0 0 := by
        have := nv_drop_getD (l := B) (i := 0) (by omega)
        rw [List.drop_zero, List.drop_of_length_le (by omega)] at this
        rw [this]; rfl
      rw [hB1] at hb0 c2 ⊢
      simp -implicitDefEqProofs only [go_sem, Nat.reduceAdd, Nat.reduceEqDiff, Nat.reduceLT, reduceIte, reduceCtorEq, Int.reduceLE, Int.reduceLT, Int.reduceEq, Int.reduceAdd, Int.reduceMul, Int.reduceSub, Nat.reduceMul, Nat.reduceSub, Nat.reducePow, Nat.reduceLeDiff, Int.reduceToNat, DD, c2, c3, c4, c5, c6]
      refine callK_of false nat_short.call (short_sat A (B.getD 0 0) ha (by omega) (by omega) hd0) rfl rfl (by simp [ownOK]) (by simp [U32, isD_u32, isD_v]) ?_
      simp -implicitDefEqProofs only [go_sem, Nat.reduceAdd, Nat.reduceEqDiff, Nat.reduceLT, reduceIte, reduceCtorEq, Int.reduceLE, Int.reduceLT, Int.reduceEq, Int.reduceAdd, Int.reduceMul, Int.reduceSub, Nat.reduceMul, Nat.reduceSub, Nat.reducePow, Nat.reduceLeDiff, Int.reduceToNat, DD]
    · obtain ⟨m, hm⟩ : ∃ m, B.length = m + 2 := ⟨B.length - 2, by omega⟩
      have htop := ht (m + 1) hm
      obtain ⟨s0, s1, s2, s3⟩ := norm_shift hb hm htop
      have hxl := Lm_getD hb (m + 1)
      have c3 : ¬ ((((m + 2 : Nat) : Int)) = 1) := by omega
      have c3' : ¬ ((((m + 2 : Nat) : Int)) = 0) := by omega
      have c4 : IntKind.i64.wrap (((m + 2 : Nat) : Int) - 1) = ((m + 1 : Nat) : Int) := by rw [wrap_i64 (by omega) (by omega)]; omega
      have c5 : (0 : Int) ≤ ((m + 1 : Nat) : Int) := by omega
      have c6 : ((m + 1 : Nat) : Int) < ((m + 2 : Nat) : Int) := by omega
      have c7 : m + 1 < m + 2 := by omega
      have c8 := getD_u32s (l := B) (i := m + 1) (by omega)
      simp -implicitDefEqProofs only [go_sem, Nat.reduceAdd, Nat.reduceEqDiff, Nat.reduceLT, reduceIte, reduceCtorEq, Int.reduceLE, Int.reduceLT, Int.reduceEq, Int.reduceAdd, Int.reduceMul, Int.reduceSub, Nat.reduceMul, Nat.reduceSub, Nat.reducePow, Nat.reduceLeDiff, Int.reduceToNat, DD, hm, c2, c3, c3', c4, c5, c6, c7, c8]
      refine callK_of false math_bits_LeadingZeros32.call (lz32_sat hxl) rfl rfl (by simp [ownOK]) (by simp [isD_v]) ?_
      generalize hs : 32 - bl (B.getD (m + 1) 0) = s at *
      have hs31 : s ≤ 31 := by omega
      have hsn : shN (s : Int) = s := by unfold shN; omega
      simp -implicitDefEqProofs only [go_sem, Nat.reduceAdd, Nat.reduceEqDiff, Nat.reduceLT, reduceIte, reduceCtorEq, Int.reduceLE, Int.reduceLT, Int.reduceEq, Int.reduceAdd, Int.reduceMul, Int.reduceSub, Nat.reduceMul, Nat.reduceSub, Nat.reducePow, Nat.reduceLeDiff, Int.reduceToNat, DD, hm]
      refine callK_of false nat_Shl.call (shl_sat B (s : Int) hb (by omega)) rfl (by simp only [List.map_cons, List.map_nil, snap_sl, snap_int, U32, hm]) (by simp [ownOK]) (by simp [U32, isD_u32, isD_v]) ?_
      rw [hsn]
      have hA0 : nv A ≠ 0 := by omega
      simp -implicitDefEqProofs only [go_sem, Nat.reduceAdd, Nat.reduceEqDiff, Nat.reduceLT, reduceIte, reduceCtorEq, Int.reduceLE, Int.reduceLT, Int.reduceEq, Int.reduceAdd, Int.reduceMul, Int.reduceSub, Nat.reduceMul, Nat.reduceSub, Nat.reducePow, Nat.reduceLeDiff, Int.reduceToNat, DD]
      refine callK_own (shl_hsat A (s : Int) ha (by omega) hA0) ?_
      rw [hsn]
      rintro _ _ ⟨out, rfl, rfl, hout, htake⟩
      have hV0 : 0 < nv B * 2 ^ s := Nat.mul_pos (by omega) (Nat.two_pow_pos s)
      have hlaA : m + 2 ≤ A.length := by
        refine Nat.le_of_not_lt fun q => hlt ?_
        exact lim_lt (by rw [← f1, ← f2]; omega)
      have hL1 : A.length ≤ (lim (nv A * 2 ^ s)).length := by
        refine Nat.le_of_not_lt fun q => ?_
        have h := lim_lt (x := nv A * 2 ^ s) (y := nv A) (by rw [← f1]; exact q)
        have := Nat.mul_le_mul_left (nv A) (Nat.two_pow_pos s)
        omega
      have hX1 : nv A * 2 ^ s < 4294967296 ^ A.length * 2 ^ s := Nat.mul_lt_mul_of_pos_right (nv_lt ha) (Nat.two_pow_pos s)
      have hs2 : 2 ^ s ≤ 2147483648 := Nat.pow_le_pow_right (show 0 < 2 by omega) hs31
      have hL2 : (lim (nv A * 2 ^ s)).length ≤ A.length + 1 := by
        refine lim_length_le ?_
        rw [Nat.pow_succ]
        exact Nat.lt_of_lt_of_le hX1 (Nat.mul_le_mul_left _ (by omega))
      have hvl : (lim (nv B * 2 ^ s)).length = m + 2 := by
        refine lim_len ?_ ?_
        · exact Nat.le_trans (Nat.le_mul_of_pos_left _ (by omega)) s2
        · rw [Nat.pow_succ, Nat.mul_comm (4294967296 ^ (m + 1))]; exact s3
      have hvt := top_limb hvl s2
      have hvn := nv_lim (nv B * 2 ^ s)
      have hvm := Lm_lim (nv B * 2 ^ s)
      have hXn := nv_lim (nv A * 2 ^ s)
      have hXm := Lm_lim (nv A * 2 ^ s)
      have hXV : nv A * 2 ^ s < (nv B * 2 ^ s) * 4294967296 ^ (A.length - (m + 2) + 1) := by
        refine Nat.lt_of_lt_of_le hX1 ?_
        have z1 := Nat.mul_le_mul_right (4294967296 ^ (A.length - (m + 2) + 1)) s2
        rw [Nat.mul_assoc, ← Nat.pow_add, show m + 1 + (A.length - (m + 2) + 1) = A.length by omega, Nat.mul_comm] at z1
        exact Nat.le_trans (Nat.mul_le_mul_left _ hs2) z1
      clear s2 s3 hX1
      generalize lim (nv B * 2 ^ s) = v at *
      generalize hXl : lim (nv A * 2 ^ s) = XL at *
      obtain ⟨d0, hd0⟩ : ∃ d0, A.length = m + 2 + d0 := ⟨A.length - (m + 2), by omega⟩
      rw [show A.length - (m + 2) + 1 = d0 + 1 by omega] at hXV
      replace hXV : Hid _ := hXV
      have eU : u32s XL ++ [.v (.int .u32 0), .v (.int .u32 0)] = u32s (XL ++ [0, 0]) := by simp [u32s]
      have eT : ([.v (.int .u32 0), .v (.int .u32 0)] : List AV).take 2 = [.v (.int .u32 0), .v (.int .u32 0)] := rfl
      have eL : ([.v (.int .u32 0), .v (.int .u32 0)] : List AV).all leafA = true := rfl
      have w1 : IntKind.i64.wrap (((m + 2 + d0 : Nat) : Int) + 1) = ((m + 2 + d0 + 1 : Nat) : Int) := by rw [wrap_i64 (by omega) (by omega)]; omega
      have w2 : IntKind.i64.wrap (((m + 2 + d0 : Nat) : Int) - ((m + 2 : Nat) : Int)) = (d0 : Int) := by rw [wrap_i64 (by omega) (by omega)]; omega
      have w3 := incI (j := d0) (by omega)
      have w4 : IntKind.i64.wrap (((d0 + 1 : Nat) : Int) - 1) = ((d0 + 1 : Nat) : Int) - 1 := wrap_i64 (by omega) (by omega)
      have k1 : XL.length ≤ out.length := by
        have := congrArg List.length htake
        rw [List.length_take] at this
        omega
      have k2 : (0 : Int) ≤ ((m + 2 + d0 + 1 : Nat) : Int) := by omega
      have k3 : ((m + 2 + d0 + 1 : Nat) : Int) ≤ ((XL.length + 2 : Nat) : Int) := by omega
      have k4 : (0 : Int) ≤ ((d0 + 1 : Nat) : Int) := by omega
      simp -implicitDefEqProofs only [go_sem, Nat.reduceAdd, Nat.reduceEqDiff, Nat.reduceLT, reduceIte, reduceCtorEq, Int.reduceLE, Int.reduceLT, Int.reduceEq, Int.reduceAdd, Int.reduceMul, Int.reduceSub, Nat.reduceMul, Nat.reduceSub, Nat.reducePow, Nat.reduceLeDiff, Int.reduceToNat, DD, htake, hvl, hd0, eT, eL, eU, w1, w2, w3, w4, k1, k2, k3, k4]
      refine ⟨⟨by omega, by omega⟩, ⟨by omega, by omega⟩, ?_⟩
      have hi0 : nv ((XL ++ [0, 0]).take (m + 2 + d0 + 1)) = nv A * 2 ^ s := by
        rw [List.take_append, nv_append, List.take_of_length_le (by omega), show ([0, 0] : List Nat) = List.replicate 2 0 from rfl, List.take_replicate, nv_rep, Nat.mul_zero, Nat.add_zero, hXn]
      refine loop_of aW0_mono (fun k σ => ∃ sl o0 o1 U Q, σ = ⟨sl, [o0, o1, ⟨u32s U, true, true⟩, ⟨u32s Q, true, true⟩]⟩ ∧ k ≤ d0 + 1 ∧ U.length = XL.length + 2 ∧ Q.length = d0 + 1 ∧ Lm U ∧ Lm Q ∧
        look sl 9 = I64 (s : Nat) ∧ look sl 10 = .sl (m + 2) (u32s v) ∧ look sl 11 = .own 1 2 0 (m + 2 + d0 + 1) ∧ look sl 12 = .own 1 3 0 (d0 + 1) ∧ look sl 13 = I64 ((k : Int) - 1) ∧
        Hid (nv A * 2 ^ s = nv (U.take (m + 2 + d0 + 1)) + (nv B * 2 ^ s) * (4294967296 ^ k * nv (Q.drop k)) ∧ nv (U.take (m + 2 + d0 + 1)) < (nv B * 2 ^ s) * 4294967296 ^ k)) ?_ (n := d0 + 1)
        ⟨_, _, _, XL ++ [0, 0], List.replicate (d0 + 1) 0, rfl, by omega, by simp, by simp, Lm_append hXm (fun x hx => by simp at hx; omega), Lm_rep _, by simp [x_look], by simp [x_look], by simp [x_look], by simp [x_look], by simp [x_look],
          ⟨by rw [hi0, List.drop_of_length_le (by simp), show nv [] = 0 from rfl, Nat.mul_zero, Nat.mul_zero, Nat.add_zero], by rw [hi0]; exact hXV⟩⟩
      rintro k _ ⟨sl, o0, o1, U, Q, rfl, hk, hUl, hQl, hU, hQ, h9, h10, h11, h12, h13, hinv⟩
      cases k with
      | zero =>
        have d1 : ¬ ((0 : Int) ≤ ((0 : Nat) : Int) - 1) := by omega
        have hfin : lim (nv Q) = lim (nv A / nv B) ∧ nv (U.take (m + 2 + d0 + 1)) / 2 ^ s = nv A % nv B := by
          have hinv : nv A * 2 ^ s = nv (U.take (m + 2 + d0 + 1)) + (nv B * 2 ^ s) * (4294967296 ^ 0 * nv (Q.drop 0)) ∧ nv (U.take (m + 2 + d0 + 1)) < (nv B * 2 ^ s) * 4294967296 ^ 0 := hinv
          rw [Nat.pow_zero, Nat.one_mul, Nat.mul_one, List.drop_zero] at hinv
          obtain ⟨z1, z2⟩ := div_done (b := nv B) (by omega) rfl hinv.1 hinv.2
          exact ⟨by rw [z1], z2⟩
        have e4 : cutL Q = lim (nv A / nv B) := by rw [cutL_lim hQ, hfin.1]
        simp -implicitDefEqProofs only [go_sem, Nat.reduceAdd, Nat.reduceEqDiff, Nat.reduceLT, reduceIte, reduceCtorEq, Int.reduceLE, Int.reduceLT, Int.reduceEq, Int.reduceAdd, Int.reduceMul, Int.reduceSub, Nat.reduceMul, Nat.reduceSub, Nat.reducePow, Nat.reduceLeDiff, Int.reduceToNat, DD, h9, h10, h11, h12, h13, d1]
        refine callK_of (H' := [o0, o1, ⟨u32s U, true, true⟩, ⟨u32s Q, true, false⟩]) false nat_cut.call (cut_sat Q (by omega)) rfl (by simp only [List.map_cons, List.map_nil, snap_own, hd, List.getD_cons_zero, List.getD_cons_succ, List.drop_zero, Nat.mul_one, take_u32s, ← hQl, List.take_length, snap0_u32s, U32]) (by simp [ownOK, hd, hQl]) (by simp [U32, isD_u32]) ?_
        simp -implicitDefEqProofs only [go_sem, Nat.reduceAdd, Nat.reduceEqDiff, Nat.reduceLT, reduceIte, reduceCtorEq, Int.reduceLE, Int.reduceLT, Int.reduceEq, Int.reduceAdd, Int.reduceMul, Int.reduceSub, Nat.reduceMul, Nat.reduceSub, Nat.reducePow, Nat.reduceLeDiff, Int.reduceToNat, DD, h9, h10, h11, h12, h13, e4]
        have hUt : (U.take (m + 2 + d0 + 1)).length = m + 2 + d0 + 1 := by rw [List.length_take]; omega
        refine callK_of (H' := [o0, o1, ⟨u32s U, true, false⟩, ⟨u32s Q, true, false⟩]) false nat_Shr.call (shr_sat (U.take (m + 2 + d0 + 1)) (s : Int) (Lm_take hU _) (by omega)) rfl (by simp only [List.map_cons, List.map_nil, snap_own, snap_int, hd, List.getD_cons_zero, List.getD_cons_succ, List.drop_zero, Nat.mul_one, take_u32s, hUt, snap0_u32s, U32]) (by simp [ownOK, hd]; omega) (by simp [U32, isD_u32, isD_v]) ?_
        rw [hsn, hfin.2]
        simp -implicitDefEqProofs only [go_sem, Nat.reduceAdd, Nat.reduceEqDiff, Nat.reduceLT, reduceIte, reduceCtorEq, Int.reduceLE, Int.reduceLT, Int.reduceEq, Int.reduceAdd, Int.reduceMul, Int.reduceSub, Nat.reduceMul, Nat.reduceSub, Nat.reducePow, Nat.reduceLeDiff, Int.reduceToNat, DD]
      | succ j =>
        have hj1 : ((j + 1 : Nat) : Int) - 1 = (j : Int) := by omega
        rw [hj1] at h13
        obtain ⟨pre, S, rfl, rfl⟩ : ∃ pre S, U = pre ++ S ∧ pre.length = j := ⟨U.take j, U.drop j, (List.take_append_drop j U).symm, by rw [List.length_take]; omega⟩
        have hUl2 : pre.length + S.length = XL.length + 2 := by rw [← hUl, List.length_append]
        have hS : Lm S := fun x hx => hU x (List.mem_append_right _ hx)
        have hpre : Lm pre := fun x hx => hU x (List.mem_append_left _ hx)
        have hSl : m + 3 ≤ S.length := by omega
        have key : nv (S.take (m + 3)) < 4294967296 * nv v ∧ (∀ S' q, S'.length = S.length → nv (S'.take (m + 3)) = nv (S.take (m + 3)) % nv v → S'.drop (m + 3) = S.drop (m + 3) → q = nv (S.take (m + 3)) / nv v →
            Hid (nv A * 2 ^ s = nv ((pre ++ S').take (m + 2 + d0 + 1)) + (nv B * 2 ^ s) * (4294967296 ^ pre.length * nv ((Q.set pre.length q).drop pre.length)) ∧ nv ((pre ++ S').take (m + 2 + d0 + 1)) < (nv B * 2 ^ s) * 4294967296 ^ pre.length)) := by
          have hinv : nv A * 2 ^ s = nv ((pre ++ S).take (m + 2 + d0 + 1)) + (nv B * 2 ^ s) * (4294967296 ^ (pre.length + 1) * nv (Q.drop (pre.length + 1))) ∧ nv ((pre ++ S).take (m + 2 + d0 + 1)) < (nv B * 2 ^ s) * 4294967296 ^ (pre.length + 1) := hinv
          have hpl : pre.length ≤ m + 2 + d0 + 1 := by clear hinv hXV; omega
          have hp3 : m + 3 ≤ m + 2 + d0 + 1 - pre.length := by clear hinv hXV; omega
          have hspl : ∀ T : List Nat, nv ((pre ++ T).take (m + 2 + d0 + 1)) = nv pre + 4294967296 ^ pre.length * nv (T.take (m + 2 + d0 + 1 - pre.length)) := fun T => by
            rw [List.take_append, nv_append, List.take_of_length_le hpl]
          rw [hspl, ← hvn, Nat.pow_succ] at hinv
          obtain ⟨i1, i2⟩ := hinv
          obtain ⟨y1, y2, y3⟩ := div_step i1 (nv_lt hpre) i2
          have hVlt : 4294967296 * nv v ≤ 4294967296 ^ (m + 3) := by
            have := nv_lt_of hvm (Nat.le_of_eq hvl)
            rw [Nat.pow_succ 4294967296 (m + 2), Nat.mul_comm]
            exact Nat.mul_le_mul_right _ (Nat.le_of_lt this)
          obtain ⟨t1, t2⟩ := take_small (l := S) (p := m + 3) (Nat.lt_of_lt_of_le y1 hVlt) hp3
          rw [← t1] at y1 y2 y3
          refine ⟨y1, fun S' q hl hval hdr hq => ?_⟩
          have hS't : nv (S'.take (m + 2 + d0 + 1 - pre.length)) = nv (S.take (m + 3)) % nv v := by
            rw [nv_split (S'.take (m + 2 + d0 + 1 - pre.length)) (m + 3), List.take_take, Nat.min_eq_left hp3, hval, List.drop_take, hdr, ← List.drop_take, t2, Nat.mul_zero, Nat.add_zero]
          have hQk : pre.length < Q.length := by clear i1 i2 y2 y3 hVlt hXV; omega
          refine ⟨?_, ?_⟩
          · rw [hspl, hS't, nv_set_drop hQk, hq, ← hvn]; exact y2
          · rw [hspl, hS't, ← hvn]; exact y3
        obtain ⟨hW, hnext⟩ := key
        replace hinv : True := trivial
        have d1 : (0 : Int) ≤ (pre.length : Int) := by omega
        have d2 : IntKind.i64.wrap ((pre.length : Int) + ((m + 2 : Nat) : Int)) = ((pre.length + (m + 2) : Nat) : Int) := by rw [wrap_i64 (by omega) (by omega)]; omega
        have d3 := incI (j := pre.length + (m + 2)) (by omega)
        have d4 : (pre.length : Int) ≤ ((pre.length + (m + 2) + 1 : Nat) : Int) := by omega
        have d5 : ((pre.length + (m + 2) + 1 : Nat) : Int) ≤ ((m + 2 + d0 + 1 : Nat) : Int) := by omega
        have d6 : pre.length + (m + 2) + 1 - pre.length = m + 3 := by omega
        simp -implicitDefEqProofs only [go_sem, Nat.reduceAdd, Nat.reduceEqDiff, Nat.reduceLT, reduceIte, reduceCtorEq, Int.reduceLE, Int.reduceLT, Int.reduceEq, Int.reduceAdd, Int.reduceMul, Int.reduceSub, Nat.reduceMul, Nat.reduceSub, Nat.reducePow, Nat.reduceLeDiff, Int.reduceToNat, DD, h9, h10, h11, h12, h13, d1, d2, d3, d4, d5, d6]
        refine callK_own (step_hsat o0 o1 ⟨u32s Q, true, true⟩ pre S v m hvm hS hvl hSl (by omega) hvt hW) ?_
        rintro _ _ ⟨S', rfl, rfl, hS', hl', hval, hdr⟩
        have hnx := hnext S' _ hl' hval hdr rfl
        have hqlt : nv (S.take (m + 3)) / nv v < 4294967296 := (Nat.div_lt_iff_lt_mul (by omega)).mpr hW
        generalize nv (S.take (m + 3)) / nv v = qd at *
        have g1 : (pre.length : Int) < ((d0 + 1 : Nat) : Int) := by omega
        have g2 : pre.length < d0 + 1 := by omega
        have g3 : pre.length + 1 ≤ Q.length := by omega
        have g4 := spl_u32s (l := Q) (i := pre.length) (x := (qd : Int)) (by omega) (by omega)
        have g5 : leafA (.v (.int .u32 (qd : Int))) = true := rfl
        have g6 : IntKind.i64.wrap ((pre.length : Int) - 1) = (pre.length : Int) - 1 := wrap_i64 (by omega) (by omega)
        simp -implicitDefEqProofs only [go_sem, Nat.reduceAdd, Nat.reduceEqDiff, Nat.reduceLT, reduceIte, reduceCtorEq, Int.reduceLE, Int.reduceLT, Int.reduceEq, Int.reduceAdd, Int.reduceMul, Int.reduceSub, Nat.reduceMul, Nat.reduceSub, Nat.reducePow, Nat.reduceLeDiff, Int.reduceToNat, DD, h9, h10, h11, h12, h13, d1, g1, g2, g3, g4, g5, g6, List.all_cons, List.all_nil, Bool.and_true, Bool.and_self]
        exact ⟨pre.length, by omega, _, _, _, pre ++ S', Q.set pre.length qd, rfl, by omega, by rw [List.length_append, hl', hUl2], by simp [hQl], Lm_append hpre hS', Lm_set hQ hqlt, by simp [x_look, h9], by simp [x_look, h10], by simp [x_look, h11], by simp [x_look, h12], by simp [x_look], hnx⟩
end Go.Ab

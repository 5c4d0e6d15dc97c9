/- Contracts of this seat's functions (of each call: what it answers), walked over the abstract machine, and the laws of numbers that they want. Conditions: those that each theorem states. -/
import Derived.Test.YtchgjgffikdcnaaW8
import Derived.Test.YtchgjgffikdcnaaAX
set_option linter.unusedVariables false
set_option maxRecDepth 20000
set_option linter.unusedSimpArgs false
set_option linter.unusedSectionVars false
namespace Go.Ab
open Go.Proofs

section
variable {C : Ctx} {N : Nat} {Q : APost} {σ : AState}
/-- what is handed over reads as this, and is written no more -/
structure FR (H : Heap) (a d : AV) : Prop where
  snp : snap H a = d
  own : ownOK H false a
  isd : IsD d
inductive FRs (H : Heap) : List AV → List AV → Prop
  | nil : FRs H [] []
  | cons {a d : AV} {l m : List AV} (h : FR H a d) (t : FRs H l m) : FRs H (a :: l) (d :: m)
theorem FRs.snp {H : Heap} {l m : List AV} (h : FRs H l m) : l.map (snap H) = m := by
  induction h with
  | nil => rfl
  | cons h t ih => rw [List.map_cons, h.snp, ih]
theorem FRs.own {H : Heap} {l m : List AV} (h : FRs H l m) : ∀ a ∈ l, ownOK H false a := by
  induction h with
  | nil => intro a q; cases q
  | cons h t ih => intro a q; rcases List.mem_cons.1 q with rfl | q; exact h.own; exact ih a q
theorem FRs.isd {H : Heap} {l m : List AV} (h : FRs H l m) : ∀ d ∈ m, IsD d := by
  induction h with
  | nil => intro a q; cases q
  | cons h t ih => intro a q; rcases List.mem_cons.1 q with rfl | q; exact h.isd; exact ih a q
theorem callK_frs {C : Ctx} {d : Bool} {f : FuncId} {args ds : List AV} {H : Heap} {r : AV} {K : AV → Heap → Prop} (hc : callable C.P f = true) (h : Sat C false f ds r) (ha : FRs H args ds) (hd1 : d = true) (hK : K r H) : callK C d f args H K := by
  subst hd1
  exact callK_of false (H' := H) hc h rfl ha.snp ha.own ha.isd hK
theorem fr_IA (H : Heap) (s : Bool) (l : List Nat) : FR H (IA s l) (IA s l) := ⟨by simp [snap, snap1, IA, U32], by simp [ownOK, own1, IA, U32], by simp [U32, isD_u32, isD_v, isD_nil, isD_agg, IA]⟩
theorem fr_WI (H : Heap) (z : Int) : FR H (WI z) (WI z) := fr_IA _ _ _
/-- a number whose limbs are a row of the call's own -/
def XR (H : Heap) (X : AV) (l : List Nat) : Prop := (X = .v (.slice none 0 0) ∧ l = []) ∨ ∃ k, X = .own 1 k 0 l.length ∧ (H.getD k ⟨[], false, false⟩).cells = u32s l ∧ (H.getD k ⟨[], false, false⟩).rd = true
theorem fr_X {H : Heap} {X : AV} {l : List Nat} (s : Bool) (h : XR H X l) : FR (fzAll H) (.agg [Bo s, X]) (IA s l) := by
  rcases h with ⟨rfl, rfl⟩ | ⟨k, rfl, h2, h3⟩
  · exact ⟨rfl, by simp [ownOK, own1], by simp [U32, isD_u32, isD_v, isD_nil, isD_agg, IA]⟩
  · have hg := hd_fzAll H k
    have e1 : (hd (fzAll H) k).cells = u32s l := by rw [hg]; exact h2
    have e2 : (hd (fzAll H) k).rd = true := by rw [hg]; exact h3
    have e3 : (hd (fzAll H) k).wr = false := by rw [hg]
    refine ⟨?_, ?_, by simp [U32, isD_u32, isD_v, isD_nil, isD_agg, IA]⟩
    · show AV.agg [Bo s, .sl l.length ((((hd (fzAll H) k).cells.drop 0).take (l.length * 1)).map snap0)] = _
      rw [e1, List.drop_zero, Nat.mul_one, ← length_u32s l, List.take_length, snap0_u32s, length_u32s]
      rfl
    · intro c hc
      simp only [List.mem_cons, List.not_mem_nil, or_false] at hc
      rcases hc with rfl | rfl
      · trivial
      · refine ⟨e2, .inr e3, ?_⟩
        rw [e1, length_u32s]; omega
theorem XR.ext {H : Heap} {X : AV} {l : List Nat} (h : XR H X l) (y : AObj) : XR (H ++ [y]) X l := by
  rcases h with h | ⟨k, h1, h2, h3⟩
  · exact .inl h
  · have hk : k < H.length := by
      refine Nat.lt_of_not_le (fun q => ?_)
      rw [List.getD_eq_getElem?_getD, List.getElem?_eq_none q] at h3
      cases h3
    have e : (H ++ [y]).getD k ⟨[], false, false⟩ = H.getD k ⟨[], false, false⟩ := by
      rw [List.getD_eq_getElem?_getD, List.getD_eq_getElem?_getD, List.getElem?_append_left hk]
    exact .inr ⟨k, h1, by rw [e]; exact h2, by rw [e]; exact h3⟩
theorem cut_noughts (l : List Nat) (j : Nat) : cutL (l ++ List.replicate j 0) = cutL l := by
  induction j with
  | zero => simp
  | succ j ih => rw [List.replicate_succ', ← List.append_assoc, cutL_zero, ih]
theorem iv_noughts (s : Bool) (l : List Nat) (j : Nat) : iv s (l ++ List.replicate j 0) = iv s l := by
  unfold iv
  rw [nv_append, nv_rep, Nat.mul_zero, Nat.add_zero]
theorem isN_noughts (s : Bool) (l : List Nat) {j : Nat} (h : j ≠ 0) : isN s (l ++ List.replicate j 0) = false := by
  unfold isN
  rw [cut_noughts, decide_eq_false (by have := cutL_length l; simp; omega), Bool.false_and]
end

theorem norms_no (s t : Bool) (l k : List Nat) (v : Nat) (hn : ¬ (l.length ≤ 24 ∧ k.length ≤ 24)) : Sat CT false 7 [IA s l, IA t k, .v (.int .u8 (v : Nat))] (Bo true) := by
  refine sat_of annuluslaw2_WholeNorms.ok (by simp) ?_
  have DD := annuluslaw2_WholeNorms.dr
  simp only [drP, drPx, drR, drS, bodyOf, Try.f7, Nat.reduceEqDiff, reduceIte, true_and, and_true] at DD
  simp -implicitDefEqProofs only [go_sem, Nat.reduceAdd, Nat.reduceEqDiff, Nat.reduceLT, reduceIte, reduceCtorEq, Int.reduceLE, Int.reduceLT, Int.reduceEq, Int.reduceAdd, Int.reduceMul, Int.reduceSub, Nat.reduceMul, Nat.reduceSub, Nat.reducePow, Nat.reduceLeDiff, Int.reduceToNat, Try.f7, DD, x_app, x_ga0, x_gas, x_gan, Int.cast_ofNat_Int, eq_self, Int.zero_lt_one, Bool.not_false, Bool.not_true, beq_self_eq_true, WI, IA, NI]
  refine callK_of false annuluslaw2_known.call (wknown_sat) rfl rfl (by simp [ownOK, own1, hd, fzH, fzArgs, fzCells, fz, IA, WI, U32]) (by simp [U32, isD_u32, isD_v, isD_nil, isD_agg, IA, WI]) ?_
  simp -implicitDefEqProofs only [go_sem, Nat.reduceAdd, Nat.reduceEqDiff, Nat.reduceLT, reduceIte, reduceCtorEq, Int.reduceLE, Int.reduceLT, Int.reduceEq, Int.reduceAdd, Int.reduceMul, Int.reduceSub, Nat.reduceMul, Nat.reduceSub, Nat.reducePow, Nat.reduceLeDiff, Int.reduceToNat, DD, x_app, x_ga0, x_gas, x_gan, Int.cast_ofNat_Int, eq_self, Int.zero_lt_one, Bool.not_false, Bool.not_true, beq_self_eq_true, WI, IA, NI]
  by_cases hl : l.length ≤ 24
  · refine callK_of false annuluslaw2_few.call (wfew_yes s l hl) rfl rfl (by simp [ownOK, own1, hd, fzH, fzArgs, fzCells, fz, IA, WI, U32]) (by simp [U32, isD_u32, isD_v, isD_nil, isD_agg, IA, WI]) ?_
    simp -implicitDefEqProofs only [go_sem, Nat.reduceAdd, Nat.reduceEqDiff, Nat.reduceLT, reduceIte, reduceCtorEq, Int.reduceLE, Int.reduceLT, Int.reduceEq, Int.reduceAdd, Int.reduceMul, Int.reduceSub, Nat.reduceMul, Nat.reduceSub, Nat.reducePow, Nat.reduceLeDiff, Int.reduceToNat, DD, x_app, x_ga0, x_gas, x_gan, Int.cast_ofNat_Int, eq_self, Int.zero_lt_one, Bool.not_false, Bool.not_true, beq_self_eq_true, WI, IA, NI]
    refine callK_of false annuluslaw2_few.call (wfew_no t k (fun q => hn ⟨hl, q⟩)) rfl rfl (by simp [ownOK, own1, hd, fzH, fzArgs, fzCells, fz, IA, WI, U32]) (by simp [U32, isD_u32, isD_v, isD_nil, isD_agg, IA, WI]) ?_
    simp -implicitDefEqProofs only [go_sem, Nat.reduceAdd, Nat.reduceEqDiff, Nat.reduceLT, reduceIte, reduceCtorEq, Int.reduceLE, Int.reduceLT, Int.reduceEq, Int.reduceAdd, Int.reduceMul, Int.reduceSub, Nat.reduceMul, Nat.reduceSub, Nat.reducePow, Nat.reduceLeDiff, Int.reduceToNat, DD, x_app, x_ga0, x_gas, x_gan, Int.cast_ofNat_Int, eq_self, Int.zero_lt_one, Bool.not_false, Bool.not_true, beq_self_eq_true, WI, IA, NI]
  · refine callK_of false annuluslaw2_few.call (wfew_no s l hl) rfl rfl (by simp [ownOK, own1, hd, fzH, fzArgs, fzCells, fz, IA, WI, U32]) (by simp [U32, isD_u32, isD_v, isD_nil, isD_agg, IA, WI]) ?_
    simp -implicitDefEqProofs only [go_sem, Nat.reduceAdd, Nat.reduceEqDiff, Nat.reduceLT, reduceIte, reduceCtorEq, Int.reduceLE, Int.reduceLT, Int.reduceEq, Int.reduceAdd, Int.reduceMul, Int.reduceSub, Nat.reduceMul, Nat.reduceSub, Nat.reducePow, Nat.reduceLeDiff, Int.reduceToNat, DD, x_app, x_ga0, x_gas, x_gan, Int.cast_ofNat_Int, eq_self, Int.zero_lt_one, Bool.not_false, Bool.not_true, beq_self_eq_true, WI, IA, NI]
set_option maxHeartbeats 8000000 in
theorem norms_yes (s t : Bool) (l k : List Nat) (v : Nat) (hv : v < 256) (hl : Lm l) (hk : Lm k) (h1 : l.length ≤ 24) (h2 : k.length ≤ 24) : Sat CT false 7 [IA s l, IA t k, .v (.int .u8 (v : Nat))] (Bo true) := by
  refine sat_ofX annuluslaw2_WholeNorms.ok (by simp) ?_
  have DD := annuluslaw2_WholeNorms.dr
  simp only [drP, drPx, drR, drS, bodyOf, Try.f7, Nat.reduceEqDiff, reduceIte, true_and, and_true] at DD
  obtain ⟨j, hj⟩ : ∃ j, j = v % 4 := ⟨_, rfl⟩
  have j4 : j < 4 := by omega
  have e1 : (v : Int).tmod 4 = (j : Int) := by rw [Int.tmod_eq_emod_of_nonneg (by omega)]; omega
  have e2 : IntKind.u8.wrap ((v : Int).tmod 4) = (j : Int) := by rw [e1]; rcases (show j = 0 ∨ j = 1 ∨ j = 2 ∨ j = 3 by omega) with rfl | rfl | rfl | rfl <;> rfl
  have e3 : IntKind.i64.wrap (j : Int) = (j : Int) := wrap_i64 (by omega) (by omega)
  have e4 : ¬ (4 : Int) = 0 := by decide
  have e5 : IntKind.u8.wrap (j : Int) = (j : Int) := by rcases (show j = 0 ∨ j = 1 ∨ j = 2 ∨ j = 3 by omega) with rfl | rfl | rfl | rfl <;> rfl
  unfold aX1
  simp only [bodyOf, aW1, Try.f7]
  refine aX_seq aW0_mono ?_
  simp -implicitDefEqProofs only [go_sem, Nat.reduceAdd, Nat.reduceEqDiff, Nat.reduceLT, reduceIte, reduceCtorEq, Int.reduceLE, Int.reduceLT, Int.reduceEq, Int.reduceAdd, Int.reduceMul, Int.reduceSub, Nat.reduceMul, Nat.reduceSub, Nat.reducePow, Nat.reduceLeDiff, Int.reduceToNat, DD, x_app, x_ga0, x_gas, x_gan, Int.cast_ofNat_Int, eq_self, Int.zero_lt_one, Bool.not_false, Bool.not_true, beq_self_eq_true, WI, IA, NI]
  rw [x_HY]
  refine aX_seq aW0_mono ?_
  simp -implicitDefEqProofs only [go_sem, Nat.reduceAdd, Nat.reduceEqDiff, Nat.reduceLT, reduceIte, reduceCtorEq, Int.reduceLE, Int.reduceLT, Int.reduceEq, Int.reduceAdd, Int.reduceMul, Int.reduceSub, Nat.reduceMul, Nat.reduceSub, Nat.reducePow, Nat.reduceLeDiff, Int.reduceToNat, DD, x_app, x_ga0, x_gas, x_gan, Int.cast_ofNat_Int, eq_self, Int.zero_lt_one, Bool.not_false, Bool.not_true, beq_self_eq_true, WI, IA, NI]
  refine callK_of false annuluslaw2_known.call (wknown_sat) rfl rfl (by simp [ownOK, own1, hd, fzH, fzArgs, fzCells, fz, IA, WI, U32]) (by simp [U32, isD_u32, isD_v, isD_nil, isD_agg, IA, WI]) ?_
  simp -implicitDefEqProofs only [go_sem, Nat.reduceAdd, Nat.reduceEqDiff, Nat.reduceLT, reduceIte, reduceCtorEq, Int.reduceLE, Int.reduceLT, Int.reduceEq, Int.reduceAdd, Int.reduceMul, Int.reduceSub, Nat.reduceMul, Nat.reduceSub, Nat.reducePow, Nat.reduceLeDiff, Int.reduceToNat, DD, x_app, x_ga0, x_gas, x_gan, Int.cast_ofNat_Int, eq_self, Int.zero_lt_one, Bool.not_false, Bool.not_true, beq_self_eq_true, WI, IA, NI]
  rw [x_HY]
  refine aX_seq aW0_mono ?_
  simp -implicitDefEqProofs only [go_sem, Nat.reduceAdd, Nat.reduceEqDiff, Nat.reduceLT, reduceIte, reduceCtorEq, Int.reduceLE, Int.reduceLT, Int.reduceEq, Int.reduceAdd, Int.reduceMul, Int.reduceSub, Nat.reduceMul, Nat.reduceSub, Nat.reducePow, Nat.reduceLeDiff, Int.reduceToNat, DD, x_app, x_ga0, x_gas, x_gan, Int.cast_ofNat_Int, eq_self, Int.zero_lt_one, Bool.not_false, Bool.not_true, beq_self_eq_true, WI, IA, NI]
  refine callK_of false annuluslaw2_few.call (wfew_yes s l h1) rfl rfl (by simp [ownOK, own1, hd, fzH, fzArgs, fzCells, fz, IA, WI, U32]) (by simp [U32, isD_u32, isD_v, isD_nil, isD_agg, IA, WI]) ?_
  simp -implicitDefEqProofs only [go_sem, Nat.reduceAdd, Nat.reduceEqDiff, Nat.reduceLT, reduceIte, reduceCtorEq, Int.reduceLE, Int.reduceLT, Int.reduceEq, Int.reduceAdd, Int.reduceMul, Int.reduceSub, Nat.reduceMul, Nat.reduceSub, Nat.reducePow, Nat.reduceLeDiff, Int.reduceToNat, DD, x_app, x_ga0, x_gas, x_gan, Int.cast_ofNat_Int, eq_self, Int.zero_lt_one, Bool.not_false, Bool.not_true, beq_self_eq_true, WI, IA, NI]
  refine callK_of false annuluslaw2_few.call (wfew_yes t k h2) rfl rfl (by simp [ownOK, own1, hd, fzH, fzArgs, fzCells, fz, IA, WI, U32]) (by simp [U32, isD_u32, isD_v, isD_nil, isD_agg, IA, WI]) ?_
  simp -implicitDefEqProofs only [go_sem, Nat.reduceAdd, Nat.reduceEqDiff, Nat.reduceLT, reduceIte, reduceCtorEq, Int.reduceLE, Int.reduceLT, Int.reduceEq, Int.reduceAdd, Int.reduceMul, Int.reduceSub, Nat.reduceMul, Nat.reduceSub, Nat.reducePow, Nat.reduceLeDiff, Int.reduceToNat, DD, x_app, x_ga0, x_gas, x_gan, Int.cast_ofNat_Int, eq_self, Int.zero_lt_one, Bool.not_false, Bool.not_true, beq_self_eq_true, WI, IA, NI]
  rw [x_HY]
  refine aX_cut aW0_mono (fun σ => ∃ sl H kx X, σ = ⟨sl, H⟩ ∧ look sl 2 = .v (.int .u8 (v : Nat)) ∧ look sl 3 = .ptr 0 0 ∧ look sl 4 = .ptr 1 0 ∧ look sl 7 = .ptr kx 0 ∧ H.getD 0 ⟨[], false, false⟩ = ⟨[Bo s, U32 l], true, true⟩ ∧ H.getD 1 ⟨[], false, false⟩ = ⟨[Bo t, U32 k], true, true⟩ ∧ 1 < H.length ∧ kx < H.length ∧ H.getD kx ⟨[], false, false⟩ = ⟨[Bo s, X], true, true⟩ ∧ XR H X (l ++ List.replicate j 0)) ?_ ?_
  · by_cases hl0 : l.length = 0
    · obtain rfl : l = [] := List.eq_nil_of_length_eq_zero hl0
      by_cases hj0 : j = 0
      · obtain rfl := hj0
        have w0 : IntKind.i64.wrap (0 : Int) = 0 := rfl
        have w1 : (0 : Int) < 2 ^ 40 := by decide
        have w2 : (0 : Int) * 4 ≤ 2 ^ 47 := by decide
        simp -implicitDefEqProofs only [go_sem, Nat.reduceAdd, Nat.reduceEqDiff, Nat.reduceLT, reduceIte, reduceCtorEq, Int.reduceLE, Int.reduceLT, Int.reduceEq, Int.reduceAdd, Int.reduceMul, Int.reduceSub, Nat.reduceMul, Nat.reduceSub, Nat.reducePow, Nat.reduceLeDiff, Int.reduceToNat, DD, x_app, x_ga0, x_gas, x_gan, Int.cast_ofNat_Int, eq_self, Int.zero_lt_one, Bool.not_false, Bool.not_true, beq_self_eq_true, WI, IA, NI, e1, e2, e3, e4, e5, w0, w1, w2, Int.natCast_zero, Int.toNat_zero, Int.zero_mul]
        and_intros <;> first | rfl | omega | decide | exact ⟨_, _, 2, _, rfl, by simp [x_look], by simp [x_look], by simp [x_look], by simp [x_look], rfl, rfl, by simp, by simp, rfl, .inl ⟨rfl, by simp⟩⟩ | exact ⟨_, _, 3, _, rfl, by simp [x_look], by simp [x_look], by simp [x_look], by simp [x_look], rfl, rfl, by simp, by simp, rfl, .inl ⟨rfl, by simp⟩⟩ | exact ⟨_, _, 4, _, rfl, by simp [x_look], by simp [x_look], by simp [x_look], by simp [x_look], rfl, rfl, by simp, by simp, rfl, .inl ⟨rfl, by simp⟩⟩
      · obtain ⟨q, rfl⟩ : ∃ q, j = q + 1 := ⟨j - 1, by omega⟩
        have w1 : (0 : Int) ≤ ((q + 1 : Nat) : Int) := by omega
        have w2 : ((q + 1 : Nat) : Int) < 2 ^ 40 := by omega
        have w3 : ((q + 1 : Nat) : Int) * 4 ≤ 2 ^ 47 := by omega
        have w4 : (q + 1) * 4 ≤ 140737488355328 := by omega
        have w5 : (q + 1) ≤ 4611686018427387904 := by omega
        simp -implicitDefEqProofs only [go_sem, Nat.reduceAdd, Nat.reduceEqDiff, Nat.reduceLT, reduceIte, reduceCtorEq, Int.reduceLE, Int.reduceLT, Int.reduceEq, Int.reduceAdd, Int.reduceMul, Int.reduceSub, Nat.reduceMul, Nat.reduceSub, Nat.reducePow, Nat.reduceLeDiff, Int.reduceToNat, DD, x_app, x_ga0, x_gas, x_gan, Int.cast_ofNat_Int, eq_self, Int.zero_lt_one, Bool.not_false, Bool.not_true, beq_self_eq_true, WI, IA, NI, e1, e2, e3, e4, e5, w1, w2, w3, w4, w5, Int.toNat_natCast]
        and_intros <;> first | rfl | omega | decide | exact ⟨_, _, 2, _, rfl, by simp [x_look], by simp [x_look], by simp [x_look], by simp [x_look], rfl, rfl, by simp, by simp, rfl, .inr ⟨2, by simp, rfl, rfl⟩⟩ | exact ⟨_, _, 2, _, rfl, by simp [x_look], by simp [x_look], by simp [x_look], by simp [x_look], rfl, rfl, by simp, by simp, rfl, .inr ⟨3, by simp, rfl, rfl⟩⟩ | exact ⟨_, _, 3, _, rfl, by simp [x_look], by simp [x_look], by simp [x_look], by simp [x_look], rfl, rfl, by simp, by simp, rfl, .inr ⟨2, by simp, rfl, rfl⟩⟩ | exact ⟨_, _, 3, _, rfl, by simp [x_look], by simp [x_look], by simp [x_look], by simp [x_look], rfl, rfl, by simp, by simp, rfl, .inr ⟨3, by simp, rfl, rfl⟩⟩ | exact ⟨_, _, 4, _, rfl, by simp [x_look], by simp [x_look], by simp [x_look], by simp [x_look], rfl, rfl, by simp, by simp, rfl, .inr ⟨2, by simp, rfl, rfl⟩⟩ | exact ⟨_, _, 4, _, rfl, by simp [x_look], by simp [x_look], by simp [x_look], by simp [x_look], rfl, rfl, by simp, by simp, rfl, .inr ⟨3, by simp, rfl, rfl⟩⟩
    · obtain ⟨m, hm⟩ : ∃ m, l.length = m + 1 := ⟨l.length - 1, by omega⟩
      have ht : l.take (m + 1) = l := by rw [← hm, List.take_length]
      have w1 : (0 : Int) ≤ (j : Int) := by omega
      have w2 : (j : Int) < 2 ^ 40 := by omega
      have w3 : (j : Int) * 4 ≤ 2 ^ 47 := by omega
      have w4 : (m + 1) * 4 ≤ 140737488355328 := by omega
      have w5 : (m + 1) ≤ 4611686018427387904 := by omega
      have w6 : (m + 1 + j) * 4 ≤ 140737488355328 := by omega
      have w7 : (m + 1 + j) ≤ 4611686018427387904 := by omega
      simp -implicitDefEqProofs only [go_sem, Nat.reduceAdd, Nat.reduceEqDiff, Nat.reduceLT, reduceIte, reduceCtorEq, Int.reduceLE, Int.reduceLT, Int.reduceEq, Int.reduceAdd, Int.reduceMul, Int.reduceSub, Nat.reduceMul, Nat.reduceSub, Nat.reducePow, Nat.reduceLeDiff, Int.reduceToNat, DD, x_app, x_ga0, x_gas, x_gan, Int.cast_ofNat_Int, eq_self, Int.zero_lt_one, Bool.not_false, Bool.not_true, beq_self_eq_true, WI, IA, NI, e1, e2, e3, e4, e5, hm, ht, w1, w2, w3, w4, w5, w6, w7, Int.toNat_natCast]
      and_intros <;> first | rfl | omega | decide | exact ⟨_, _, 2, _, rfl, by simp [x_look], by simp [x_look], by simp [x_look], by simp [x_look], rfl, rfl, by simp, by simp, rfl, .inr ⟨2, by simp [hm], rfl, rfl⟩⟩ | exact ⟨_, _, 2, _, rfl, by simp [x_look], by simp [x_look], by simp [x_look], by simp [x_look], rfl, rfl, by simp, by simp, rfl, .inr ⟨3, by simp [hm], rfl, rfl⟩⟩ | exact ⟨_, _, 2, _, rfl, by simp [x_look], by simp [x_look], by simp [x_look], by simp [x_look], rfl, rfl, by simp, by simp, rfl, .inr ⟨4, by simp [hm], rfl, rfl⟩⟩ | exact ⟨_, _, 3, _, rfl, by simp [x_look], by simp [x_look], by simp [x_look], by simp [x_look], rfl, rfl, by simp, by simp, rfl, .inr ⟨2, by simp [hm], rfl, rfl⟩⟩ | exact ⟨_, _, 3, _, rfl, by simp [x_look], by simp [x_look], by simp [x_look], by simp [x_look], rfl, rfl, by simp, by simp, rfl, .inr ⟨3, by simp [hm], rfl, rfl⟩⟩ | exact ⟨_, _, 3, _, rfl, by simp [x_look], by simp [x_look], by simp [x_look], by simp [x_look], rfl, rfl, by simp, by simp, rfl, .inr ⟨4, by simp [hm], rfl, rfl⟩⟩ | exact ⟨_, _, 4, _, rfl, by simp [x_look], by simp [x_look], by simp [x_look], by simp [x_look], rfl, rfl, by simp, by simp, rfl, .inr ⟨2, by simp [hm], rfl, rfl⟩⟩ | exact ⟨_, _, 4, _, rfl, by simp [x_look], by simp [x_look], by simp [x_look], by simp [x_look], rfl, rfl, by simp, by simp, rfl, .inr ⟨3, by simp [hm], rfl, rfl⟩⟩ | exact ⟨_, _, 4, _, rfl, by simp [x_look], by simp [x_look], by simp [x_look], by simp [x_look], rfl, rfl, by simp, by simp, rfl, .inr ⟨4, by simp [hm], rfl, rfl⟩⟩
  · rintro _ ⟨sl, H, kx, X, rfl, k2, k3, k4, k7, g0, g1, hL, hx, gx, xr⟩
    have w1 : (0 : Int) ≤ (j : Int) := by omega
    have w2 : (j : Int) < 2 ^ 62 := by omega
    have w3 : 4 * (j : Int) ≤ 2 ^ 48 := by omega
    have gA : ∀ (G : Heap) y i, i < G.length → (G ++ [y]).getD i ⟨[], false, false⟩ = G.getD i ⟨[], false, false⟩ := fun G y i q => by
      rw [List.getD_eq_getElem?_getD, List.getD_eq_getElem?_getD, List.getElem?_append_left q]
    have gB : ∀ y z i, i < H.length → (H ++ [y] ++ [z]).getD i ⟨[], false, false⟩ = H.getD i ⟨[], false, false⟩ := fun y z i q => by
      rw [gA _ _ _ (by simp; omega), gA _ _ _ q]
    have gL : ∀ (G : Heap) y, (G ++ [y]).getD G.length ⟨[], false, false⟩ = y := fun G y => by simp [List.getD_eq_getElem?_getD]
    have sL : ∀ (G : Heap) y z, (G ++ [y]).set G.length z = G ++ [z] := fun G y z => by simp
    have sp : ∀ a b c d : AV, spl [c, d] 0 [a, b] = [a, b] := fun _ _ _ _ => rfl
    refine aX_fz aW0_mono (fun σ => ∃ sl H kn Y, σ = ⟨sl, H⟩ ∧ look sl 2 = .v (.int .u8 (v : Nat)) ∧ look sl 3 = .ptr 0 0 ∧ look sl 4 = .ptr 1 0 ∧ look sl 7 = .ptr kx 0 ∧ look sl 8 = .ptr kn 0 ∧ H.getD 0 ⟨[], false, false⟩ = ⟨[Bo s, U32 l], true, true⟩ ∧ H.getD 1 ⟨[], false, false⟩ = ⟨[Bo t, U32 k], true, true⟩ ∧ H.getD kx ⟨[], false, false⟩ = ⟨[Bo s, X], true, true⟩ ∧ H.getD kn ⟨[], false, false⟩ = ⟨[Bo true, Y], true, true⟩ ∧ XR H X (l ++ List.replicate j 0) ∧ XR H Y (List.replicate j 0)) ?_ ?_
    · simp -implicitDefEqProofs only [go_sem, Nat.reduceAdd, Nat.reduceEqDiff, Nat.reduceLT, reduceIte, reduceCtorEq, Int.reduceLE, Int.reduceLT, Int.reduceEq, Int.reduceAdd, Int.reduceMul, Int.reduceSub, Nat.reduceMul, Nat.reduceSub, Nat.reducePow, Nat.reduceLeDiff, Int.reduceToNat, DD, x_app, x_ga0, x_gas, x_gan, Int.cast_ofNat_Int, eq_self, Int.zero_lt_one, Bool.not_false, Bool.not_true, beq_self_eq_true, WI, IA, NI, e1, e2, e3, e4, e5, k2, k3, k4, k7, w1, w2, w3, gL, sL, sp, Int.toNat_natCast]
      refine ⟨rfl, _, _, _, _, rfl, by simp [x_look, k2], by simp [x_look, k3], by simp [x_look, k4], by simp [x_look, k7], by simp [x_look], (gB _ _ _ (by omega)).trans g0, (gB _ _ _ hL).trans g1, (gB _ _ _ hx).trans gx, gL _ _, (xr.ext _).ext _, .inr ⟨H.length, ?_, ?_, ?_⟩⟩
      · simp
      · rw [gA _ _ _ (by simp), gL]
      · rw [gA _ _ _ (by simp), gL]
    · rintro _ ⟨sl, H, kn, Y, rfl, k2, k3, k4, k7, k8, g0, g1, gx, gn, xr, yr⟩
      have fa := fr_X s xr
      have fn := fr_X true yr
      have q0 : (fzAll H).getD 0 ⟨[], false, false⟩ = ⟨[Bo s, U32 l], true, false⟩ := by have := hd_fzAll H 0; unfold hd at this; rw [this, g0]
      have q1 : (fzAll H).getD 1 ⟨[], false, false⟩ = ⟨[Bo t, U32 k], true, false⟩ := by have := hd_fzAll H 1; unfold hd at this; rw [this, g1]
      have qx : (fzAll H).getD kx ⟨[], false, false⟩ = ⟨[Bo s, X], true, false⟩ := by have := hd_fzAll H kx; unfold hd at this; rw [this, gx]
      have qn : (fzAll H).getD kn ⟨[], false, false⟩ = ⟨[Bo true, Y], true, false⟩ := by have := hd_fzAll H kn; unfold hd at this; rw [this, gn]
      dsimp only at *
      generalize fzAll H = F at *
      have rX : RI (IA s (l ++ List.replicate j 0)) (iv s l) 27 := ⟨_, _, rfl, Lm_append hl (Lm_rep j), iv_noughts s l j, by simp; omega⟩
      have rN : RI (IA true (List.replicate j 0)) 0 3 := ⟨_, _, rfl, Lm_rep j, by have := iv_noughts true [] j; simpa [iv, nv] using this, by simp; omega⟩
      have ra := RI_i (n := s) hl h1
      have rY := RI_i (n := t) hk h2
      have zl := Lz_iv (n := s) hl h1
      have zk := Lz_iv (n := t) hk h2
      have nx := isN_noughts s l (j := j)
      generalize iv s l = z at *
      generalize iv t k = y at *
      have z1 : Lz (z + y) ≤ 25 := Lz_add zl zk
      have z2 : Lz (z * y) ≤ 48 := Lz_mul zl zk
      have z3 : Lz (0 + z) ≤ 24 := by rw [Int.zero_add]; exact zl
      have c0 : (z - z).sign = 0 := by rw [Int.sub_self]; rfl
      have c1 : (0 : Int).sign = 0 := rfl
      have e6 : ((v : Int).tmod 4) = (j : Int) := e1
      refine aX_w ?_
      simp -implicitDefEqProofs only [go_sem, Nat.reduceAdd, Nat.reduceEqDiff, Nat.reduceLT, reduceIte, reduceCtorEq, Int.reduceLE, Int.reduceLT, Int.reduceEq, Int.reduceAdd, Int.reduceMul, Int.reduceSub, Nat.reduceMul, Nat.reduceSub, Nat.reducePow, Nat.reduceLeDiff, Int.reduceToNat, DD, x_app, x_ga0, x_gas, x_gan, Int.cast_ofNat_Int, eq_self, Int.zero_lt_one, Bool.not_false, Bool.not_true, beq_self_eq_true, WI, IA, NI, k2, k3, k4, k7, k8, q0, q1, qx, qn, c0, c1, e1, e4, e5, e6]
      refine callK_frs whole_Add.call (add_r rX rY (by omega) (by omega)) (.cons fa (.cons (fr_IA _ _ _) .nil)) rfl ?_
      simp -implicitDefEqProofs only [go_sem, Nat.reduceAdd, Nat.reduceEqDiff, Nat.reduceLT, reduceIte, reduceCtorEq, Int.reduceLE, Int.reduceLT, Int.reduceEq, Int.reduceAdd, Int.reduceMul, Int.reduceSub, Nat.reduceMul, Nat.reduceSub, Nat.reducePow, Nat.reduceLeDiff, Int.reduceToNat, DD, x_app, x_ga0, x_gas, x_gan, Int.cast_ofNat_Int, eq_self, Int.zero_lt_one, Bool.not_false, Bool.not_true, beq_self_eq_true, WI, IA, NI, k2, k3, k4, k7, k8, q0, q1, qx, qn, c0, c1, e1, e4, e5, e6]
      refine callK_frs whole_Add.call (add_r ra rY (by omega) (by omega)) (.cons (fr_IA _ _ _) (.cons (fr_IA _ _ _) .nil)) rfl ?_
      simp -implicitDefEqProofs only [go_sem, Nat.reduceAdd, Nat.reduceEqDiff, Nat.reduceLT, reduceIte, reduceCtorEq, Int.reduceLE, Int.reduceLT, Int.reduceEq, Int.reduceAdd, Int.reduceMul, Int.reduceSub, Nat.reduceMul, Nat.reduceSub, Nat.reducePow, Nat.reduceLeDiff, Int.reduceToNat, DD, x_app, x_ga0, x_gas, x_gan, Int.cast_ofNat_Int, eq_self, Int.zero_lt_one, Bool.not_false, Bool.not_true, beq_self_eq_true, WI, IA, NI, k2, k3, k4, k7, k8, q0, q1, qx, qn, c0, c1, e1, e4, e5, e6]
      refine callK_frs annulusref1_SameInt.call (same_w rfl (by omega)) (.cons (fr_WI _ _) (.cons (fr_WI _ _) .nil)) rfl ?_
      simp -implicitDefEqProofs only [go_sem, Nat.reduceAdd, Nat.reduceEqDiff, Nat.reduceLT, reduceIte, reduceCtorEq, Int.reduceLE, Int.reduceLT, Int.reduceEq, Int.reduceAdd, Int.reduceMul, Int.reduceSub, Nat.reduceMul, Nat.reduceSub, Nat.reducePow, Nat.reduceLeDiff, Int.reduceToNat, DD, x_app, x_ga0, x_gas, x_gan, Int.cast_ofNat_Int, eq_self, Int.zero_lt_one, Bool.not_false, Bool.not_true, beq_self_eq_true, WI, IA, NI, k2, k3, k4, k7, k8, q0, q1, qx, qn, c0, c1, e1, e4, e5, e6]
      refine callK_frs whole_Mul.call (mul_r rX rY (by omega) (by omega)) (.cons fa (.cons (fr_IA _ _ _) .nil)) rfl ?_
      simp -implicitDefEqProofs only [go_sem, Nat.reduceAdd, Nat.reduceEqDiff, Nat.reduceLT, reduceIte, reduceCtorEq, Int.reduceLE, Int.reduceLT, Int.reduceEq, Int.reduceAdd, Int.reduceMul, Int.reduceSub, Nat.reduceMul, Nat.reduceSub, Nat.reducePow, Nat.reduceLeDiff, Int.reduceToNat, DD, x_app, x_ga0, x_gas, x_gan, Int.cast_ofNat_Int, eq_self, Int.zero_lt_one, Bool.not_false, Bool.not_true, beq_self_eq_true, WI, IA, NI, k2, k3, k4, k7, k8, q0, q1, qx, qn, c0, c1, e1, e4, e5, e6]
      refine callK_frs whole_Mul.call (mul_r ra rY (by omega) (by omega)) (.cons (fr_IA _ _ _) (.cons (fr_IA _ _ _) .nil)) rfl ?_
      simp -implicitDefEqProofs only [go_sem, Nat.reduceAdd, Nat.reduceEqDiff, Nat.reduceLT, reduceIte, reduceCtorEq, Int.reduceLE, Int.reduceLT, Int.reduceEq, Int.reduceAdd, Int.reduceMul, Int.reduceSub, Nat.reduceMul, Nat.reduceSub, Nat.reducePow, Nat.reduceLeDiff, Int.reduceToNat, DD, x_app, x_ga0, x_gas, x_gan, Int.cast_ofNat_Int, eq_self, Int.zero_lt_one, Bool.not_false, Bool.not_true, beq_self_eq_true, WI, IA, NI, k2, k3, k4, k7, k8, q0, q1, qx, qn, c0, c1, e1, e4, e5, e6]
      refine callK_frs annulusref1_SameInt.call (same_w rfl (by omega)) (.cons (fr_WI _ _) (.cons (fr_WI _ _) .nil)) rfl ?_
      simp -implicitDefEqProofs only [go_sem, Nat.reduceAdd, Nat.reduceEqDiff, Nat.reduceLT, reduceIte, reduceCtorEq, Int.reduceLE, Int.reduceLT, Int.reduceEq, Int.reduceAdd, Int.reduceMul, Int.reduceSub, Nat.reduceMul, Nat.reduceSub, Nat.reducePow, Nat.reduceLeDiff, Int.reduceToNat, DD, x_app, x_ga0, x_gas, x_gan, Int.cast_ofNat_Int, eq_self, Int.zero_lt_one, Bool.not_false, Bool.not_true, beq_self_eq_true, WI, IA, NI, k2, k3, k4, k7, k8, q0, q1, qx, qn, c0, c1, e1, e4, e5, e6]
      refine callK_frs whole_Cmp.call (cmp_r rX ra (by omega) (by omega)) (.cons fa (.cons (fr_IA _ _ _) .nil)) rfl ?_
      simp -implicitDefEqProofs only [go_sem, Nat.reduceAdd, Nat.reduceEqDiff, Nat.reduceLT, reduceIte, reduceCtorEq, Int.reduceLE, Int.reduceLT, Int.reduceEq, Int.reduceAdd, Int.reduceMul, Int.reduceSub, Nat.reduceMul, Nat.reduceSub, Nat.reducePow, Nat.reduceLeDiff, Int.reduceToNat, DD, x_app, x_ga0, x_gas, x_gan, Int.cast_ofNat_Int, eq_self, Int.zero_lt_one, Bool.not_false, Bool.not_true, beq_self_eq_true, WI, IA, NI, k2, k3, k4, k7, k8, q0, q1, qx, qn, c0, c1, e1, e4, e5, e6]
      refine callK_frs whole_Sign.call (sign_r rN (by omega)) (.cons fn .nil) rfl ?_
      simp -implicitDefEqProofs only [go_sem, Nat.reduceAdd, Nat.reduceEqDiff, Nat.reduceLT, reduceIte, reduceCtorEq, Int.reduceLE, Int.reduceLT, Int.reduceEq, Int.reduceAdd, Int.reduceMul, Int.reduceSub, Nat.reduceMul, Nat.reduceSub, Nat.reducePow, Nat.reduceLeDiff, Int.reduceToNat, DD, x_app, x_ga0, x_gas, x_gan, Int.cast_ofNat_Int, eq_self, Int.zero_lt_one, Bool.not_false, Bool.not_true, beq_self_eq_true, WI, IA, NI, k2, k3, k4, k7, k8, q0, q1, qx, qn, c0, c1, e1, e4, e5, e6]
      refine callK_frs whole_Add.call (add_r rN ra (by omega) (by omega)) (.cons fn (.cons (fr_IA _ _ _) .nil)) rfl ?_
      simp -implicitDefEqProofs only [go_sem, Nat.reduceAdd, Nat.reduceEqDiff, Nat.reduceLT, reduceIte, reduceCtorEq, Int.reduceLE, Int.reduceLT, Int.reduceEq, Int.reduceAdd, Int.reduceMul, Int.reduceSub, Nat.reduceMul, Nat.reduceSub, Nat.reducePow, Nat.reduceLeDiff, Int.reduceToNat, DD, x_app, x_ga0, x_gas, x_gan, Int.cast_ofNat_Int, eq_self, Int.zero_lt_one, Bool.not_false, Bool.not_true, beq_self_eq_true, WI, IA, NI, k2, k3, k4, k7, k8, q0, q1, qx, qn, c0, c1, e1, e4, e5, e6]
      refine callK_frs whole_Norm.call (norm_r ra (by omega)) (.cons (fr_IA _ _ _) .nil) rfl ?_
      simp -implicitDefEqProofs only [go_sem, Nat.reduceAdd, Nat.reduceEqDiff, Nat.reduceLT, reduceIte, reduceCtorEq, Int.reduceLE, Int.reduceLT, Int.reduceEq, Int.reduceAdd, Int.reduceMul, Int.reduceSub, Nat.reduceMul, Nat.reduceSub, Nat.reducePow, Nat.reduceLeDiff, Int.reduceToNat, DD, x_app, x_ga0, x_gas, x_gan, Int.cast_ofNat_Int, eq_self, Int.zero_lt_one, Bool.not_false, Bool.not_true, beq_self_eq_true, WI, IA, NI, k2, k3, k4, k7, k8, q0, q1, qx, qn, c0, c1, e1, e4, e5, e6]
      refine callK_frs annulusref1_SameInt.call (same_w (Int.zero_add z) (by omega)) (.cons (fr_WI _ _) (.cons (fr_WI _ _) .nil)) rfl ?_
      simp -implicitDefEqProofs only [go_sem, Nat.reduceAdd, Nat.reduceEqDiff, Nat.reduceLT, reduceIte, reduceCtorEq, Int.reduceLE, Int.reduceLT, Int.reduceEq, Int.reduceAdd, Int.reduceMul, Int.reduceSub, Nat.reduceMul, Nat.reduceSub, Nat.reducePow, Nat.reduceLeDiff, Int.reduceToNat, DD, x_app, x_ga0, x_gas, x_gan, Int.cast_ofNat_Int, eq_self, Int.zero_lt_one, Bool.not_false, Bool.not_true, beq_self_eq_true, WI, IA, NI, k2, k3, k4, k7, k8, q0, q1, qx, qn, c0, c1, e1, e4, e5, e6]
      refine callK_frs whole_Norm.call (norm_r rX (by omega)) (.cons fa .nil) rfl ?_
      simp -implicitDefEqProofs only [go_sem, Nat.reduceAdd, Nat.reduceEqDiff, Nat.reduceLT, reduceIte, reduceCtorEq, Int.reduceLE, Int.reduceLT, Int.reduceEq, Int.reduceAdd, Int.reduceMul, Int.reduceSub, Nat.reduceMul, Nat.reduceSub, Nat.reducePow, Nat.reduceLeDiff, Int.reduceToNat, DD, x_app, x_ga0, x_gas, x_gan, Int.cast_ofNat_Int, eq_self, Int.zero_lt_one, Bool.not_false, Bool.not_true, beq_self_eq_true, WI, IA, NI, k2, k3, k4, k7, k8, q0, q1, qx, qn, c0, c1, e1, e4, e5, e6]
      refine callK_frs whole_Is.call (is_W (by omega)) (.cons (fr_WI _ _) .nil) rfl ?_
      simp -implicitDefEqProofs only [go_sem, Nat.reduceAdd, Nat.reduceEqDiff, Nat.reduceLT, reduceIte, reduceCtorEq, Int.reduceLE, Int.reduceLT, Int.reduceEq, Int.reduceAdd, Int.reduceMul, Int.reduceSub, Nat.reduceMul, Nat.reduceSub, Nat.reducePow, Nat.reduceLeDiff, Int.reduceToNat, DD, x_app, x_ga0, x_gas, x_gan, Int.cast_ofNat_Int, eq_self, Int.zero_lt_one, Bool.not_false, Bool.not_true, beq_self_eq_true, WI, IA, NI, k2, k3, k4, k7, k8, q0, q1, qx, qn, c0, c1, e1, e4, e5, e6]
      have hw := wis_sat s (l ++ List.replicate j 0) (Lm_append hl (Lm_rep j)) (by simp; omega)
      by_cases hj0 : j = 0
      · have d1 : (j : Int) = 0 := by omega
        simp -implicitDefEqProofs only [go_sem, Nat.reduceAdd, Nat.reduceEqDiff, Nat.reduceLT, reduceIte, reduceCtorEq, Int.reduceLE, Int.reduceLT, Int.reduceEq, Int.reduceAdd, Int.reduceMul, Int.reduceSub, Nat.reduceMul, Nat.reduceSub, Nat.reducePow, Nat.reduceLeDiff, Int.reduceToNat, DD, x_app, x_ga0, x_gas, x_gan, Int.cast_ofNat_Int, eq_self, Int.zero_lt_one, Bool.not_false, Bool.not_true, beq_self_eq_true, WI, IA, NI, k2, k3, k4, k7, k8, q0, q1, qx, qn, c0, c1, e1, e4, e5, e6, d1]
      · have d1 : ¬ (j : Int) = 0 := by omega
        rw [nx hj0] at hw
        simp -implicitDefEqProofs only [go_sem, Nat.reduceAdd, Nat.reduceEqDiff, Nat.reduceLT, reduceIte, reduceCtorEq, Int.reduceLE, Int.reduceLT, Int.reduceEq, Int.reduceAdd, Int.reduceMul, Int.reduceSub, Nat.reduceMul, Nat.reduceSub, Nat.reducePow, Nat.reduceLeDiff, Int.reduceToNat, DD, x_app, x_ga0, x_gas, x_gan, Int.cast_ofNat_Int, eq_self, Int.zero_lt_one, Bool.not_false, Bool.not_true, beq_self_eq_true, WI, IA, NI, k2, k3, k4, k7, k8, q0, q1, qx, qn, c0, c1, e1, e4, e5, e6, d1]
        refine callK_frs whole_Is.call hw (.cons fa .nil) rfl ?_
        simp -implicitDefEqProofs only [go_sem, Nat.reduceAdd, Nat.reduceEqDiff, Nat.reduceLT, reduceIte, reduceCtorEq, Int.reduceLE, Int.reduceLT, Int.reduceEq, Int.reduceAdd, Int.reduceMul, Int.reduceSub, Nat.reduceMul, Nat.reduceSub, Nat.reducePow, Nat.reduceLeDiff, Int.reduceToNat, DD, x_app, x_ga0, x_gas, x_gan, Int.cast_ofNat_Int, eq_self, Int.zero_lt_one, Bool.not_false, Bool.not_true, beq_self_eq_true, WI, IA, NI, k2, k3, k4, k7, k8, q0, q1, qx, qn, c0, c1, e1, e4, e5, e6, d1]
theorem wholeNorms_sat (s t : Bool) (l k : List Nat) (v : Nat) (hl : Lm l) (hk : Lm k) (hv : v < 256) : Sat CT false 7 [IA s l, IA t k, .v (.int .u8 (v : Nat))] (Bo true) := by
  by_cases h : l.length ≤ 24 ∧ k.length ≤ 24
  · exact norms_yes s t l k v hv hl hk h.1 h.2
  · exact norms_no s t l k v h

end Go.Ab

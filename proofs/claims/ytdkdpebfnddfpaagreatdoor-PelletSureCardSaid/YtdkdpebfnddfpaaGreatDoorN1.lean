/- Contracts of this seat's functions (of each call: what it answers), walked over the abstract machine, and the laws of numbers that they want. Conditions: those that each theorem states. -/
import Derived.Test.YtdkdpebfnddfpaaGreatDoorFacts
set_option linter.unusedVariables false
set_option maxRecDepth 20000
set_option linter.unusedSimpArgs false
namespace Go.Ab
open Go.Proofs

theorem cut_sat (l : List Nat) (hl : l.length < 4611686018427387904) : Sat CT false 89 [U32 l] (U32 (cutL l)) := by
  refine sat_of nat_cut.ok (by simp) ?_
  simp -implicitDefEqProofs only [go_sem, Nat.reduceAdd, Nat.reduceEqDiff, Nat.reduceLT, reduceIte, reduceCtorEq, Int.reduceLE, Int.reduceLT, Int.reduceEq, Int.reduceAdd, Int.reduceMul, Int.reduceSub, Nat.reduceMul, Nat.reduceSub, Nat.reducePow, Nat.reduceLeDiff, Int.reduceToNat, and_true, Tryz.f89]
  refine loop_of aW0_mono (fun n σ => ∃ sl, σ = ⟨sl, []⟩ ∧ n ≤ l.length ∧ look sl 0 = .sl n (u32s (l.take n)) ∧ cutL (l.take n) = cutL l) ?_ (n := l.length) ⟨_, rfl, Nat.le_refl _, by simp only [x_look, reduceIte, Nat.reduceEqDiff, List.take_length], by rw [List.take_length]⟩
  rintro n _ ⟨sl, rfl, hn, h0, hc⟩
  have hend : cutL (l.take n) = l.take n → (l.take n).length = n ∧ cutL l = l.take n := fun e => by
    have : cutL l = l.take n := by rw [← hc, e]
    exact ⟨by simp; omega, this⟩
  by_cases hn0 : n = 0
  · subst hn0
    obtain ⟨e1, e2⟩ := hend rfl
    simp -implicitDefEqProofs only [go_sem, Nat.reduceAdd, Nat.reduceEqDiff, Nat.reduceLT, reduceIte, reduceCtorEq, Int.reduceLE, Int.reduceLT, Int.reduceEq, Int.reduceAdd, Int.reduceMul, Int.reduceSub, Nat.reduceMul, Nat.reduceSub, Nat.reducePow, Nat.reduceLeDiff, Int.reduceToNat, and_true, h0, Int.natCast_zero, Int.lt_irrefl, e1, e2]
  · obtain ⟨k, rfl⟩ : ∃ k, n = k + 1 := ⟨n - 1, by omega⟩
    have hk : k < l.length := by omega
    have c1 : (0 : Int) < ((k + 1 : Nat) : Int) := by omega
    have c2 : IntKind.i64.wrap (((k + 1 : Nat) : Int) - 1) = (k : Int) := by rw [wrap_i64 (by omega) (by omega)]; omega
    have c3 : (0 : Int) ≤ (k : Int) := by omega
    have c4 : (k : Int) < ((k + 1 : Nat) : Int) := by omega
    have c5 : k < (l.take (k + 1)).length := by simp; omega
    have c6 : (u32s (l.take (k + 1))).getD k .bad = .v (.int .u32 (l.getD k 0 : Nat)) := by
      rw [getD_u32s (by simp; omega)]; simp [List.getD_eq_getElem?_getD, List.getElem?_take]
    have c7 : (l.take (k + 1)).take k = l.take k := by rw [List.take_take]; congr 1; omega
    by_cases hz : l.getD k 0 = 0
    · have c8 : ((l.getD k 0 : Nat) : Int) = 0 := by omega
      have c9 : (k : Int) ≤ ((k + 1 : Nat) : Int) := by omega
      simp -implicitDefEqProofs only [go_sem, Nat.reduceAdd, Nat.reduceEqDiff, Nat.reduceLT, reduceIte, reduceCtorEq, Int.reduceLE, Int.reduceLT, Int.reduceEq, Int.reduceAdd, Int.reduceMul, Int.reduceSub, Nat.reduceMul, Nat.reduceSub, Nat.reducePow, Nat.reduceLeDiff, Int.reduceToNat, and_true, h0, c1, c2, c3, c4, c5, c6, c7, c8, c9]
      refine ⟨k, by omega, _, rfl, by omega, ?_, ?_⟩
      · simp only [x_look, reduceIte]
      · rw [← hc, take_succ_getD l hk, hz, cutL_zero]
    · have c8 : ¬ ((l.getD k 0 : Nat) : Int) = 0 := by omega
      obtain ⟨e1, e2⟩ := hend (by rw [take_succ_getD l hk, cutL_ne _ hz])
      have c9 : k < k + 1 := by omega
      simp -implicitDefEqProofs only [go_sem, Nat.reduceAdd, Nat.reduceEqDiff, Nat.reduceLT, reduceIte, reduceCtorEq, Int.reduceLE, Int.reduceLT, Int.reduceEq, Int.reduceAdd, Int.reduceMul, Int.reduceSub, Nat.reduceMul, Nat.reduceSub, Nat.reducePow, Nat.reduceLeDiff, Int.reduceToNat, and_true, h0, c1, c2, c3, c4, c5, c6, c7, c8, c9, e1, e2]

theorem clone_sat (l : List Nat) (hl : l.length < 1099511627776) : Sat CT false 113 [U32 l] (U32 l) := by
  refine sat_of slices_Clone_uint32_uint32.ok (by simp) ?_
  simp -implicitDefEqProofs only [go_sem, Nat.reduceAdd, Nat.reduceEqDiff, Nat.reduceLT, reduceIte, reduceCtorEq, Int.reduceLE, Int.reduceLT, Int.reduceEq, Int.reduceAdd, Int.reduceMul, Int.reduceSub, Nat.reduceMul, Nat.reduceSub, Nat.reducePow, Nat.reduceLeDiff, Int.reduceToNat, and_true, Tryz.f113]
  intro b hb
  cases b with
  | true =>
    have := u32s_nil (hb rfl)
    subst this
    simp -implicitDefEqProofs only [go_sem, Nat.reduceAdd, Nat.reduceEqDiff, Nat.reduceLT, reduceIte, reduceCtorEq, Int.reduceLE, Int.reduceLT, Int.reduceEq, Int.reduceAdd, Int.reduceMul, Int.reduceSub, Nat.reduceMul, Nat.reduceSub, Nat.reducePow, Nat.reduceLeDiff, Int.reduceToNat, and_true]
    rfl
  | false =>
    have c1 : l.length ≤ 4611686018427387904 := by omega
    have c2 : l.length * 4 ≤ 140737488355328 := by omega
    simp -implicitDefEqProofs only [go_sem, Nat.reduceAdd, Nat.reduceEqDiff, Nat.reduceLT, reduceIte, reduceCtorEq, Int.reduceLE, Int.reduceLT, Int.reduceEq, Int.reduceAdd, Int.reduceMul, Int.reduceSub, Nat.reduceMul, Nat.reduceSub, Nat.reducePow, Nat.reduceLeDiff, Int.reduceToNat, and_true, c1, c2]

/-- One list handed over: what the contract is asked of. -/
theorem own_u32 {H : Heap} {k n : Nat} {m : List Nat} {rd wr : Bool} (h : hd H k = ⟨u32s m, rd, wr⟩) (hn : n = m.length) : snap H (.own 1 k 0 n) = U32 m := by
  subst hn
  simp only [snap, h, U32, Nat.mul_one, List.drop_zero, take_u32s, List.take_length, snap0_u32s]

/-- A call with one row of the call's own, which is the only object. -/
theorem callK_u32 {f : FuncId} {m : List Nat} {n : Nat} {r : AV} {K : AV → Heap → Prop} (hc : callable CT.P f = true) (h : Sat CT false f [U32 m] r) (hn : m.length = n) (hK : K r [⟨u32s m, true, false⟩]) :
    callK CT false f [.own 1 0 0 n] [⟨u32s m, true, true⟩] K := by
  subst hn
  exact callK_of (H' := [⟨u32s m, true, false⟩]) false hc h rfl (by simp only [List.map_cons, List.map_nil, snap_own, hd, List.getD_cons_zero, List.drop_zero, Nat.mul_one, take_u32s, List.take_length, snap0_u32s, U32]) (by simp [ownOK, hd]) (by simp [U32, isD_u32]) hK

theorem trim_sat (l : List Nat) (hl : l.length < 1099511627776) : Sat CT false 109 [U32 l] (U32 (cutL l)) := by
  refine sat_of nat_Trim.ok (by simp) ?_
  have h2 := cutL_length l
  simp -implicitDefEqProofs only [go_sem, Nat.reduceAdd, Nat.reduceEqDiff, Nat.reduceLT, reduceIte, reduceCtorEq, Int.reduceLE, Int.reduceLT, Int.reduceEq, Int.reduceAdd, Int.reduceMul, Int.reduceSub, Nat.reduceMul, Nat.reduceSub, Nat.reducePow, Nat.reduceLeDiff, Int.reduceToNat, and_true, Tryz.f109]
  refine callK_of false nat_cut.call (cut_sat l (by omega)) rfl rfl (by simp [ownOK]) (by simp [U32, isD_u32]) ?_
  simp -implicitDefEqProofs only [go_sem, Nat.reduceAdd, Nat.reduceEqDiff, Nat.reduceLT, reduceIte, reduceCtorEq, Int.reduceLE, Int.reduceLT, Int.reduceEq, Int.reduceAdd, Int.reduceMul, Int.reduceSub, Nat.reduceMul, Nat.reduceSub, Nat.reducePow, Nat.reduceLeDiff, Int.reduceToNat, and_true]
  refine callK_of false slices_Clone_uint32_uint32.call (clone_sat (cutL l) (by omega)) rfl rfl (by simp [ownOK]) (by simp [U32, isD_u32]) ?_
  simp -implicitDefEqProofs only [go_sem, Nat.reduceAdd, Nat.reduceEqDiff, Nat.reduceLT, reduceIte, reduceCtorEq, Int.reduceLE, Int.reduceLT, Int.reduceEq, Int.reduceAdd, Int.reduceMul, Int.reduceSub, Nat.reduceMul, Nat.reduceSub, Nat.reducePow, Nat.reduceLeDiff, Int.reduceToNat, and_true]

theorem at_nat (l : List Nat) (hm : Lm l) (j : Nat) : Sat CT false 117 [U32 l, I64 j] (W64 (l.getD j 0 : Nat)) := by
  refine sat_of nat_at.ok (by simp) ?_
  have c1 : ¬ ((j : Int) < 0) := by omega
  by_cases h : j < l.length
  · have c2 : ¬ ((l.length : Int) ≤ (j : Int)) := by omega
    have c3 : (0 : Int) ≤ (j : Int) := by omega
    have c4 : (j : Int) < (l.length : Int) := by omega
    have c5 := getD_u32s h
    have c6 : IntKind.u64.wrap ((l.getD j 0 : Nat) : Int) = ((l.getD j 0 : Nat) : Int) := by
      have := Lm_getD hm j
      exact wrap_u64 (by omega) (by omega)
    simp -implicitDefEqProofs only [go_sem, Nat.reduceAdd, Nat.reduceEqDiff, Nat.reduceLT, reduceIte, reduceCtorEq, Int.reduceLE, Int.reduceLT, Int.reduceEq, Int.reduceAdd, Int.reduceMul, Int.reduceSub, Nat.reduceMul, Nat.reduceSub, Nat.reducePow, Nat.reduceLeDiff, Int.reduceToNat, and_true, Tryz.f117, c1, c2, c3, c4, h, c5, c6]
  · have c2 : (l.length : Int) ≤ (j : Int) := by omega
    have c3 : l.getD j 0 = 0 := by simp [List.getD_eq_getElem?_getD, Nat.not_lt.mp h]
    simp -implicitDefEqProofs only [go_sem, Nat.reduceAdd, Nat.reduceEqDiff, Nat.reduceLT, reduceIte, reduceCtorEq, Int.reduceLE, Int.reduceLT, Int.reduceEq, Int.reduceAdd, Int.reduceMul, Int.reduceSub, Nat.reduceMul, Nat.reduceSub, Nat.reducePow, Nat.reduceLeDiff, Int.reduceToNat, and_true, Tryz.f117, c1, c2, c3]
theorem at_neg (l : List Nat) (i : Int) (hi : i < 0) : Sat CT false 117 [U32 l, I64 i] (W64 0) := by
  refine sat_of nat_at.ok (by simp) ?_
  simp -implicitDefEqProofs only [go_sem, Nat.reduceAdd, Nat.reduceEqDiff, Nat.reduceLT, reduceIte, reduceCtorEq, Int.reduceLE, Int.reduceLT, Int.reduceEq, Int.reduceAdd, Int.reduceMul, Int.reduceSub, Nat.reduceMul, Nat.reduceSub, Nat.reducePow, Nat.reduceLeDiff, Int.reduceToNat, and_true, Tryz.f117, hi]
end Go.Ab

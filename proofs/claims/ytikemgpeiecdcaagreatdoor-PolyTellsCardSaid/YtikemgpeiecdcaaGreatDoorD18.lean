/- Contracts of this seat's functions (of each call: what it answers), walked over the abstract machine, and the laws of numbers that they want. Conditions: those that each theorem states. -/
import Derived.Test.YtikemgpeiecdcaaGreatDoorD17
set_option linter.unusedVariables false
set_option maxRecDepth 20000
set_option linter.unusedSimpArgs false
set_option linter.unusedSectionVars false
namespace Go.Ab
open Go.Proofs
open Cx (zero one)
attribute [-go_sem] appF newsF
variable {a b : AV} {z w : Cx} {B C n m : Nat} {cs ds : List AV} {f g : Po}
theorem qcl_lo {n i : Nat} (F : Nat → Raw) (h : i < n) : ((qcl n F).drop (i * 6)).take 3 = [Bo (F i).n, U32 (F i).l, I64 (F i).e] := by
  have := congrArg (List.take 3) (qcl_el F h)
  rw [List.take_take] at this
  exact this
theorem qcl_hi {n i : Nat} (F : Nat → Raw) (h : i < n) : ((qcl n F).drop (i * 6 + 3)).take 3 = [Bo (F i).m, U32 (F i).k, I64 (F i).f] := by
  have := congrArg (List.drop 3) (qcl_el F h)
  rw [List.drop_take, List.drop_drop] at this
  exact this
theorem pld_dy (b : Bool) (l : List Nat) (e : Int) : PlD (.agg [Bo b, U32 l, I64 e]) := pld_agg (fun c hc => by
  simp only [List.mem_cons, List.not_mem_nil, or_false] at hc
  rcases hc with rfl | rfl | rfl <;> first | exact lf_bool | exact lf_int | exact lf_u32 _)
theorem small11_s (b : Bool) (l : List Nat) (e : Int) : Sat CT false 34 [.agg [Bo b, U32 l, I64 e]] (Bo (decide (l.length ≤ 3 ∧ -200 ≤ e ∧ e ≤ 200))) := by
  refine sat_of annuluslaw11_small.ok (by simp) ?_
  have DD := annuluslaw11_small.dr
  simp only [drP, drPx, drR, drS, bodyOf, Tryz.f34, Nat.reduceEqDiff, reduceIte, true_and, and_true] at DD
  by_cases h1 : l.length ≤ 3
  · have c1 : (l.length : Int) ≤ 3 := by omega
    by_cases h2 : -200 ≤ e
    · by_cases h3 : e ≤ 200
      · rw [decide_eq_true ⟨h1, h2, h3⟩]
        simp -implicitDefEqProofs only [go_sem, Nat.reduceAdd, Nat.reduceEqDiff, Nat.reduceLT, reduceIte, reduceCtorEq, Int.reduceLE, Int.reduceLT, Int.reduceEq, Int.reduceAdd, Int.reduceMul, Int.reduceSub, Nat.reduceMul, Nat.reduceSub, Nat.reducePow, Nat.reduceLeDiff, Int.reduceToNat, Tryz.f34, DD, x_app, x_ga0, x_gas, x_gan, Int.cast_ofNat_Int, eq_self, Int.zero_lt_one, Bool.not_false, Bool.not_true, beq_self_eq_true, c1, h2, h3]
      · rw [decide_eq_false (fun h => h3 h.2.2)]
        simp -implicitDefEqProofs only [go_sem, Nat.reduceAdd, Nat.reduceEqDiff, Nat.reduceLT, reduceIte, reduceCtorEq, Int.reduceLE, Int.reduceLT, Int.reduceEq, Int.reduceAdd, Int.reduceMul, Int.reduceSub, Nat.reduceMul, Nat.reduceSub, Nat.reducePow, Nat.reduceLeDiff, Int.reduceToNat, Tryz.f34, DD, x_app, x_ga0, x_gas, x_gan, Int.cast_ofNat_Int, eq_self, Int.zero_lt_one, Bool.not_false, Bool.not_true, beq_self_eq_true, c1, h2, h3]
    · rw [decide_eq_false (fun h => h2 h.2.1)]
      simp -implicitDefEqProofs only [go_sem, Nat.reduceAdd, Nat.reduceEqDiff, Nat.reduceLT, reduceIte, reduceCtorEq, Int.reduceLE, Int.reduceLT, Int.reduceEq, Int.reduceAdd, Int.reduceMul, Int.reduceSub, Nat.reduceMul, Nat.reduceSub, Nat.reducePow, Nat.reduceLeDiff, Int.reduceToNat, Tryz.f34, DD, x_app, x_ga0, x_gas, x_gan, Int.cast_ofNat_Int, eq_self, Int.zero_lt_one, Bool.not_false, Bool.not_true, beq_self_eq_true, c1, h2]
  · have c1 : ¬ (l.length : Int) ≤ 3 := by omega
    rw [decide_eq_false (fun h => h1 h.1)]
    simp -implicitDefEqProofs only [go_sem, Nat.reduceAdd, Nat.reduceEqDiff, Nat.reduceLT, reduceIte, reduceCtorEq, Int.reduceLE, Int.reduceLT, Int.reduceEq, Int.reduceAdd, Int.reduceMul, Int.reduceSub, Nat.reduceMul, Nat.reduceSub, Nat.reducePow, Nat.reduceLeDiff, Int.reduceToNat, Tryz.f34, DD, x_app, x_ga0, x_gas, x_gan, Int.cast_ofNat_Int, eq_self, Int.zero_lt_one, Bool.not_false, Bool.not_true, beq_self_eq_true, c1]
theorem point11_s (r : Raw) : Sat CT false 6 [.agg r.cells] (Bo (decide r.sm)) := by
  refine sat_of annuluslaw11_point.ok (by simp) ?_
  have DD := annuluslaw11_point.dr
  simp only [drP, drPx, drR, drS, bodyOf, Tryz.f6, Nat.reduceEqDiff, reduceIte, true_and, and_true] at DD
  obtain ⟨b, l, e, c, k, g⟩ := r
  have q1 := small11_s b l e
  have q2 := small11_s c k g
  by_cases h1 : l.length ≤ 3 ∧ -200 ≤ e ∧ e ≤ 200
  · rw [decide_eq_true h1] at q1
    have ed : decide (Raw.sm ⟨b, l, e, c, k, g⟩) = decide (k.length ≤ 3 ∧ -200 ≤ g ∧ g ≤ 200) := decide_eq_decide.2 ⟨fun h => h.2, fun h => ⟨h1, h⟩⟩
    rw [ed]
    by_cases h2 : k.length ≤ 3 ∧ -200 ≤ g ∧ g ≤ 200
    · rw [decide_eq_true h2] at q2 ⊢
      simp -implicitDefEqProofs only [go_sem, Nat.reduceAdd, Nat.reduceEqDiff, Nat.reduceLT, reduceIte, reduceCtorEq, Int.reduceLE, Int.reduceLT, Int.reduceEq, Int.reduceAdd, Int.reduceMul, Int.reduceSub, Nat.reduceMul, Nat.reduceSub, Nat.reducePow, Nat.reduceLeDiff, Int.reduceToNat, Tryz.f6, DD, x_app, x_ga0, x_gas, x_gan, Int.cast_ofNat_Int, eq_self, Int.zero_lt_one, Bool.not_false, Bool.not_true, beq_self_eq_true, Raw.cells]
      refine callK_pl annuluslaw11_small.call (q1) (pl1 (pld_dy _ _ _)) ?_
      simp -implicitDefEqProofs only [go_sem, Nat.reduceAdd, Nat.reduceEqDiff, Nat.reduceLT, reduceIte, reduceCtorEq, Int.reduceLE, Int.reduceLT, Int.reduceEq, Int.reduceAdd, Int.reduceMul, Int.reduceSub, Nat.reduceMul, Nat.reduceSub, Nat.reducePow, Nat.reduceLeDiff, Int.reduceToNat, DD, x_app, x_ga0, x_gas, x_gan, Int.cast_ofNat_Int, eq_self, Int.zero_lt_one, Bool.not_false, Bool.not_true, beq_self_eq_true]
      refine callK_pl annuluslaw11_small.call (q2) (pl1 (pld_dy _ _ _)) ?_
      simp -implicitDefEqProofs only [go_sem, Nat.reduceAdd, Nat.reduceEqDiff, Nat.reduceLT, reduceIte, reduceCtorEq, Int.reduceLE, Int.reduceLT, Int.reduceEq, Int.reduceAdd, Int.reduceMul, Int.reduceSub, Nat.reduceMul, Nat.reduceSub, Nat.reducePow, Nat.reduceLeDiff, Int.reduceToNat, DD, x_app, x_ga0, x_gas, x_gan, Int.cast_ofNat_Int, eq_self, Int.zero_lt_one, Bool.not_false, Bool.not_true, beq_self_eq_true]
    · rw [decide_eq_false h2] at q2 ⊢
      simp -implicitDefEqProofs only [go_sem, Nat.reduceAdd, Nat.reduceEqDiff, Nat.reduceLT, reduceIte, reduceCtorEq, Int.reduceLE, Int.reduceLT, Int.reduceEq, Int.reduceAdd, Int.reduceMul, Int.reduceSub, Nat.reduceMul, Nat.reduceSub, Nat.reducePow, Nat.reduceLeDiff, Int.reduceToNat, Tryz.f6, DD, x_app, x_ga0, x_gas, x_gan, Int.cast_ofNat_Int, eq_self, Int.zero_lt_one, Bool.not_false, Bool.not_true, beq_self_eq_true, Raw.cells]
      refine callK_pl annuluslaw11_small.call (q1) (pl1 (pld_dy _ _ _)) ?_
      simp -implicitDefEqProofs only [go_sem, Nat.reduceAdd, Nat.reduceEqDiff, Nat.reduceLT, reduceIte, reduceCtorEq, Int.reduceLE, Int.reduceLT, Int.reduceEq, Int.reduceAdd, Int.reduceMul, Int.reduceSub, Nat.reduceMul, Nat.reduceSub, Nat.reducePow, Nat.reduceLeDiff, Int.reduceToNat, DD, x_app, x_ga0, x_gas, x_gan, Int.cast_ofNat_Int, eq_self, Int.zero_lt_one, Bool.not_false, Bool.not_true, beq_self_eq_true]
      refine callK_pl annuluslaw11_small.call (q2) (pl1 (pld_dy _ _ _)) ?_
      simp -implicitDefEqProofs only [go_sem, Nat.reduceAdd, Nat.reduceEqDiff, Nat.reduceLT, reduceIte, reduceCtorEq, Int.reduceLE, Int.reduceLT, Int.reduceEq, Int.reduceAdd, Int.reduceMul, Int.reduceSub, Nat.reduceMul, Nat.reduceSub, Nat.reducePow, Nat.reduceLeDiff, Int.reduceToNat, DD, x_app, x_ga0, x_gas, x_gan, Int.cast_ofNat_Int, eq_self, Int.zero_lt_one, Bool.not_false, Bool.not_true, beq_self_eq_true]
  · rw [decide_eq_false h1] at q1
    rw [decide_eq_false (show ¬ Raw.sm ⟨b, l, e, c, k, g⟩ from fun h => h1 h.1)]
    simp -implicitDefEqProofs only [go_sem, Nat.reduceAdd, Nat.reduceEqDiff, Nat.reduceLT, reduceIte, reduceCtorEq, Int.reduceLE, Int.reduceLT, Int.reduceEq, Int.reduceAdd, Int.reduceMul, Int.reduceSub, Nat.reduceMul, Nat.reduceSub, Nat.reducePow, Nat.reduceLeDiff, Int.reduceToNat, Tryz.f6, DD, x_app, x_ga0, x_gas, x_gan, Int.cast_ofNat_Int, eq_self, Int.zero_lt_one, Bool.not_false, Bool.not_true, beq_self_eq_true, Raw.cells]
    refine callK_pl annuluslaw11_small.call (q1) (pl1 (pld_dy _ _ _)) ?_
    simp -implicitDefEqProofs only [go_sem, Nat.reduceAdd, Nat.reduceEqDiff, Nat.reduceLT, reduceIte, reduceCtorEq, Int.reduceLE, Int.reduceLT, Int.reduceEq, Int.reduceAdd, Int.reduceMul, Int.reduceSub, Nat.reduceMul, Nat.reduceSub, Nat.reducePow, Nat.reduceLeDiff, Int.reduceToNat, DD, x_app, x_ga0, x_gas, x_gan, Int.cast_ofNat_Int, eq_self, Int.zero_lt_one, Bool.not_false, Bool.not_true, beq_self_eq_true]
theorem few11_s (F : Nat → Raw) (hn : n ≤ 9223372036854775807) : Sat CT false 5 [.sl n (qcl n F)] (Bo (decide ((∀ i, i < n → (F i).sm) ∧ n ≤ 14))) := by
  refine sat_of annuluslaw11_few.ok (by simp) ?_
  have DD := annuluslaw11_few.dr
  simp only [drP, drPx, drR, drS, bodyOf, Tryz.f5, Nat.reduceEqDiff, reduceIte, true_and, and_true] at DD
  have hL := qcl_len n F
  simp -implicitDefEqProofs only [go_sem, Nat.reduceAdd, Nat.reduceEqDiff, Nat.reduceLT, reduceIte, reduceCtorEq, Int.reduceLE, Int.reduceLT, Int.reduceEq, Int.reduceAdd, Int.reduceMul, Int.reduceSub, Nat.reduceMul, Nat.reduceSub, Nat.reducePow, Nat.reduceLeDiff, Int.reduceToNat, Tryz.f5, DD, x_app, x_ga0, x_gas, x_gan, Int.cast_ofNat_Int, eq_self, Int.zero_lt_one, Bool.not_false, Bool.not_true, beq_self_eq_true]
  refine loop_of aW0_mono (fun q σ => ∃ sl i, σ = ⟨sl, []⟩ ∧ q = n - i ∧ i ≤ n ∧ look sl 0 = .sl n (qcl n F) ∧ look sl 3 = I64 (i : Nat) ∧ ∀ j, j < i → (F j).sm) ?_ (n := n)
    ⟨_, 0, rfl, rfl, Nat.zero_le _, by simp [x_look], by simp [x_look], fun j hj => by omega⟩
  rintro q _ ⟨sl, i, rfl, rfl, hi, k0, k3, hinv⟩
  by_cases hid : i = n
  · subst hid
    have ed : decide ((∀ j, j < i → (F j).sm) ∧ i ≤ 14) = decide ((i : Int) ≤ 14) := decide_eq_decide.2 ⟨fun h => by omega, fun h => ⟨hinv, by omega⟩⟩
    rw [ed]
    simp -implicitDefEqProofs only [go_sem, Nat.reduceAdd, Nat.reduceEqDiff, Nat.reduceLT, reduceIte, reduceCtorEq, Int.reduceLE, Int.reduceLT, Int.reduceEq, Int.reduceAdd, Int.reduceMul, Int.reduceSub, Nat.reduceMul, Nat.reduceSub, Nat.reducePow, Nat.reduceLeDiff, Int.reduceToNat, DD, x_app, x_ga0, x_gas, x_gan, Int.cast_ofNat_Int, eq_self, Int.zero_lt_one, Bool.not_false, Bool.not_true, beq_self_eq_true, k0, k3, Int.lt_irrefl]
  · have c1 : (i : Int) < (n : Int) := by omega
    have ci : IntKind.i64.wrap ((i : Int) + 1) = ((i + 1 : Nat) : Int) := by rw [wrap_i64 (by omega) (by omega)]; omega
    have c2 : (0 : Int) ≤ (i : Int) := by omega
    have c4 : i * 6 < n * 6 := by omega
    have c5 : i * 6 + 3 ≤ n * 6 := by omega
    have c6 : i * 6 + 3 + 3 ≤ n * 6 := by omega
    have hc := qcl_lo F (show i < n by omega)
    have hc' := qcl_hi F (show i < n by omega)
    have q1 := small11_s (F i).n (F i).l (F i).e
    have q2 := small11_s (F i).m (F i).k (F i).f
    by_cases h1 : (F i).l.length ≤ 3 ∧ -200 ≤ (F i).e ∧ (F i).e ≤ 200
    · rw [decide_eq_true h1] at q1
      by_cases h2 : (F i).k.length ≤ 3 ∧ -200 ≤ (F i).f ∧ (F i).f ≤ 200
      · rw [decide_eq_true h2] at q2
        simp -implicitDefEqProofs only [go_sem, Nat.reduceAdd, Nat.reduceEqDiff, Nat.reduceLT, reduceIte, reduceCtorEq, Int.reduceLE, Int.reduceLT, Int.reduceEq, Int.reduceAdd, Int.reduceMul, Int.reduceSub, Nat.reduceMul, Nat.reduceSub, Nat.reducePow, Nat.reduceLeDiff, Int.reduceToNat, DD, x_app, x_ga0, x_gas, x_gan, Int.cast_ofNat_Int, eq_self, Int.zero_lt_one, Bool.not_false, Bool.not_true, beq_self_eq_true, k0, k3, ci, c1, c2, c4, c5, c6, hc, hc', hL]
        refine callK_pl annuluslaw11_small.call (q1) (pl1 (pld_dy _ _ _)) ?_
        simp -implicitDefEqProofs only [go_sem, Nat.reduceAdd, Nat.reduceEqDiff, Nat.reduceLT, reduceIte, reduceCtorEq, Int.reduceLE, Int.reduceLT, Int.reduceEq, Int.reduceAdd, Int.reduceMul, Int.reduceSub, Nat.reduceMul, Nat.reduceSub, Nat.reducePow, Nat.reduceLeDiff, Int.reduceToNat, DD, x_app, x_ga0, x_gas, x_gan, Int.cast_ofNat_Int, eq_self, Int.zero_lt_one, Bool.not_false, Bool.not_true, beq_self_eq_true, k0, k3, ci, c1, c2, c4, c5, c6, hc, hc', hL]
        refine callK_pl annuluslaw11_small.call (q2) (pl1 (pld_dy _ _ _)) ?_
        simp -implicitDefEqProofs only [go_sem, Nat.reduceAdd, Nat.reduceEqDiff, Nat.reduceLT, reduceIte, reduceCtorEq, Int.reduceLE, Int.reduceLT, Int.reduceEq, Int.reduceAdd, Int.reduceMul, Int.reduceSub, Nat.reduceMul, Nat.reduceSub, Nat.reducePow, Nat.reduceLeDiff, Int.reduceToNat, DD, x_app, x_ga0, x_gas, x_gan, Int.cast_ofNat_Int, eq_self, Int.zero_lt_one, Bool.not_false, Bool.not_true, beq_self_eq_true, k0, k3, ci, c1, c2, c4, c5, c6, hc, hc', hL]
        exact ⟨n - (i + 1), by omega, _, i + 1, rfl, rfl, by omega, by simp [x_look, k0], by simp [x_look], fun j hj => by
          rcases Nat.lt_or_ge j i with h | h
          · exact hinv j h
          · rw [show j = i by omega]; exact ⟨h1, h2⟩⟩
      · rw [decide_eq_false h2] at q2
        rw [decide_eq_false (fun h => h2 (h.1 i (by omega)).2)]
        simp -implicitDefEqProofs only [go_sem, Nat.reduceAdd, Nat.reduceEqDiff, Nat.reduceLT, reduceIte, reduceCtorEq, Int.reduceLE, Int.reduceLT, Int.reduceEq, Int.reduceAdd, Int.reduceMul, Int.reduceSub, Nat.reduceMul, Nat.reduceSub, Nat.reducePow, Nat.reduceLeDiff, Int.reduceToNat, DD, x_app, x_ga0, x_gas, x_gan, Int.cast_ofNat_Int, eq_self, Int.zero_lt_one, Bool.not_false, Bool.not_true, beq_self_eq_true, k0, k3, ci, c1, c2, c4, c5, c6, hc, hc', hL]
        refine callK_pl annuluslaw11_small.call (q1) (pl1 (pld_dy _ _ _)) ?_
        simp -implicitDefEqProofs only [go_sem, Nat.reduceAdd, Nat.reduceEqDiff, Nat.reduceLT, reduceIte, reduceCtorEq, Int.reduceLE, Int.reduceLT, Int.reduceEq, Int.reduceAdd, Int.reduceMul, Int.reduceSub, Nat.reduceMul, Nat.reduceSub, Nat.reducePow, Nat.reduceLeDiff, Int.reduceToNat, DD, x_app, x_ga0, x_gas, x_gan, Int.cast_ofNat_Int, eq_self, Int.zero_lt_one, Bool.not_false, Bool.not_true, beq_self_eq_true, k0, k3, ci, c1, c2, c4, c5, c6, hc, hc', hL]
        refine callK_pl annuluslaw11_small.call (q2) (pl1 (pld_dy _ _ _)) ?_
        simp -implicitDefEqProofs only [go_sem, Nat.reduceAdd, Nat.reduceEqDiff, Nat.reduceLT, reduceIte, reduceCtorEq, Int.reduceLE, Int.reduceLT, Int.reduceEq, Int.reduceAdd, Int.reduceMul, Int.reduceSub, Nat.reduceMul, Nat.reduceSub, Nat.reducePow, Nat.reduceLeDiff, Int.reduceToNat, DD, x_app, x_ga0, x_gas, x_gan, Int.cast_ofNat_Int, eq_self, Int.zero_lt_one, Bool.not_false, Bool.not_true, beq_self_eq_true, k0, k3, ci, c1, c2, c4, c5, c6, hc, hc', hL]
    · rw [decide_eq_false h1] at q1
      rw [decide_eq_false (fun h => h1 (h.1 i (by omega)).1)]
      simp -implicitDefEqProofs only [go_sem, Nat.reduceAdd, Nat.reduceEqDiff, Nat.reduceLT, reduceIte, reduceCtorEq, Int.reduceLE, Int.reduceLT, Int.reduceEq, Int.reduceAdd, Int.reduceMul, Int.reduceSub, Nat.reduceMul, Nat.reduceSub, Nat.reducePow, Nat.reduceLeDiff, Int.reduceToNat, DD, x_app, x_ga0, x_gas, x_gan, Int.cast_ofNat_Int, eq_self, Int.zero_lt_one, Bool.not_false, Bool.not_true, beq_self_eq_true, k0, k3, ci, c1, c2, c4, c5, c6, hc, hc', hL]
      refine callK_pl annuluslaw11_small.call (q1) (pl1 (pld_dy _ _ _)) ?_
      simp -implicitDefEqProofs only [go_sem, Nat.reduceAdd, Nat.reduceEqDiff, Nat.reduceLT, reduceIte, reduceCtorEq, Int.reduceLE, Int.reduceLT, Int.reduceEq, Int.reduceAdd, Int.reduceMul, Int.reduceSub, Nat.reduceMul, Nat.reduceSub, Nat.reducePow, Nat.reduceLeDiff, Int.reduceToNat, DD, x_app, x_ga0, x_gas, x_gan, Int.cast_ofNat_Int, eq_self, Int.zero_lt_one, Bool.not_false, Bool.not_true, beq_self_eq_true, k0, k3, ci, c1, c2, c4, c5, c6, hc, hc', hL]
theorem rof_c (v : Int) (h : v.natAbs < 128) : Sat CT false 32 [I64 v, I64 0] (CI (cst v)) := rof8_sat v 0 (by omega) (by omega) (by omega) (by omega)
end Go.Ab

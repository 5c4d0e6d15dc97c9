/- Contracts of this seat's functions (of each call: what it answers), walked over the abstract machine, and the laws of numbers that they want. Conditions: those that each theorem states. -/
import Derived.Test.YtdkdpebfnddfpaaDoorS1
set_option linter.unusedVariables false
set_option maxRecDepth 20000
set_option linter.unusedSimpArgs false
set_option linter.unusedSectionVars false
namespace Go.Ab
open Go.Proofs
open Cx (zero one)
attribute [-go_sem] appF newsF
variable {a b : AV} {z w : Cx} {B C n m : Nat} {cs ds : List AV} {f g : Po}
theorem qcl_lo {n i : Nat} (F : Nat → Raw) (h : i < n) : ((qcl n F).drop (i * 6)).take 3 = [Bo (F i).n, U32 (F i).l, I64 (F i).e] := by
  have := congrArg (List.take 3) (qcl_el F h)
  rw [List.take_take] at this
  exact this
theorem qcl_hi {n i : Nat} (F : Nat → Raw) (h : i < n) : ((qcl n F).drop (i * 6 + 3)).take 3 = [Bo (F i).m, U32 (F i).k, I64 (F i).f] := by
  have := congrArg (List.drop 3) (qcl_el F h)
  rw [List.drop_take, List.drop_drop] at this
  exact this
theorem small14_s (b : Bool) (l : List Nat) (e : Int) : Sat CT false 78 [.agg [Bo b, U32 l, I64 e]] (Bo (decide (l.length ≤ 3 ∧ -200 ≤ e ∧ e ≤ 200))) := by
  refine sat_of annuluslaw14_small.ok (by simp) ?_
  have DD := annuluslaw14_small.dr
  simp only [drP, drPx, drPt, drR, drS, drT, bodyOf, Tryd.f78, Nat.reduceEqDiff, reduceIte, true_and, and_true] at DD
  by_cases h1 : l.length ≤ 3
  · have c1 : (l.length : Int) ≤ 3 := by omega
    by_cases h2 : -200 ≤ e
    · by_cases h3 : e ≤ 200
      · rw [decide_eq_true ⟨h1, h2, h3⟩]
        simp -implicitDefEqProofs only [go_sem, Nat.reduceAdd, Nat.reduceEqDiff, Nat.reduceLT, reduceIte, reduceCtorEq, Int.reduceLE, Int.reduceLT, Int.reduceEq, Int.reduceAdd, Int.reduceMul, Int.reduceSub, Nat.reduceMul, Nat.reduceSub, Nat.reducePow, Nat.reduceLeDiff, Int.reduceToNat, Tryd.f78, DD, x_app, x_ga0, x_gas, x_gan, Int.cast_ofNat_Int, eq_self, Int.zero_lt_one, Bool.not_false, Bool.not_true, beq_self_eq_true, c1, h2, h3]
      · rw [decide_eq_false (fun h => h3 h.2.2)]
        simp -implicitDefEqProofs only [go_sem, Nat.reduceAdd, Nat.reduceEqDiff, Nat.reduceLT, reduceIte, reduceCtorEq, Int.reduceLE, Int.reduceLT, Int.reduceEq, Int.reduceAdd, Int.reduceMul, Int.reduceSub, Nat.reduceMul, Nat.reduceSub, Nat.reducePow, Nat.reduceLeDiff, Int.reduceToNat, Tryd.f78, DD, x_app, x_ga0, x_gas, x_gan, Int.cast_ofNat_Int, eq_self, Int.zero_lt_one, Bool.not_false, Bool.not_true, beq_self_eq_true, c1, h2, h3]
    · rw [decide_eq_false (fun h => h2 h.2.1)]
      simp -implicitDefEqProofs only [go_sem, Nat.reduceAdd, Nat.reduceEqDiff, Nat.reduceLT, reduceIte, reduceCtorEq, Int.reduceLE, Int.reduceLT, Int.reduceEq, Int.reduceAdd, Int.reduceMul, Int.reduceSub, Nat.reduceMul, Nat.reduceSub, Nat.reducePow, Nat.reduceLeDiff, Int.reduceToNat, Tryd.f78, DD, x_app, x_ga0, x_gas, x_gan, Int.cast_ofNat_Int, eq_self, Int.zero_lt_one, Bool.not_false, Bool.not_true, beq_self_eq_true, c1, h2]
  · have c1 : ¬ (l.length : Int) ≤ 3 := by omega
    rw [decide_eq_false (fun h => h1 h.1)]
    simp -implicitDefEqProofs only [go_sem, Nat.reduceAdd, Nat.reduceEqDiff, Nat.reduceLT, reduceIte, reduceCtorEq, Int.reduceLE, Int.reduceLT, Int.reduceEq, Int.reduceAdd, Int.reduceMul, Int.reduceSub, Nat.reduceMul, Nat.reduceSub, Nat.reducePow, Nat.reduceLeDiff, Int.reduceToNat, Tryd.f78, DD, x_app, x_ga0, x_gas, x_gan, Int.cast_ofNat_Int, eq_self, Int.zero_lt_one, Bool.not_false, Bool.not_true, beq_self_eq_true, c1]
theorem pld_dy (b : Bool) (l : List Nat) (e : Int) : PlD (.agg [Bo b, U32 l, I64 e]) := pld_agg (fun c hc => by
  simp only [List.mem_cons, List.not_mem_nil, or_false] at hc
  rcases hc with rfl | rfl | rfl <;> first | exact lf_bool | exact lf_int | exact lf_u32 _)
theorem few14_s (F : Nat → Raw) (hn : n ≤ 9223372036854775807) : Sat CT false 32 [.sl n (qcl n F)] (Bo (decide ((∀ i, i < n → (F i).sm) ∧ n ≤ 14))) := by
  refine sat_of annuluslaw14_few.ok (by simp) ?_
  have DD := annuluslaw14_few.dr
  simp only [drP, drPx, drPt, drR, drS, drT, bodyOf, Tryd.f32, Nat.reduceEqDiff, reduceIte, true_and, and_true] at DD
  have hL := qcl_len n F
  simp -implicitDefEqProofs only [go_sem, Nat.reduceAdd, Nat.reduceEqDiff, Nat.reduceLT, reduceIte, reduceCtorEq, Int.reduceLE, Int.reduceLT, Int.reduceEq, Int.reduceAdd, Int.reduceMul, Int.reduceSub, Nat.reduceMul, Nat.reduceSub, Nat.reducePow, Nat.reduceLeDiff, Int.reduceToNat, Tryd.f32, DD, x_app, x_ga0, x_gas, x_gan, Int.cast_ofNat_Int, eq_self, Int.zero_lt_one, Bool.not_false, Bool.not_true, beq_self_eq_true]
  refine loop_of aW0_mono (fun q σ => ∃ sl i, σ = ⟨sl, []⟩ ∧ q = n - i ∧ i ≤ n ∧ look sl 0 = .sl n (qcl n F) ∧ look sl 3 = I64 (i : Nat) ∧ ∀ j, j < i → (F j).sm) ?_ (n := n)
    ⟨_, 0, rfl, rfl, Nat.zero_le _, by simp [x_look], by simp [x_look], fun j hj => by omega⟩
  rintro q _ ⟨sl, i, rfl, rfl, hi, k0, k3, hinv⟩
  by_cases hid : i = n
  · subst hid
    have ed : decide ((∀ j, j < i → (F j).sm) ∧ i ≤ 14) = decide ((i : Int) ≤ 14) := decide_eq_decide.2 ⟨fun h => by omega, fun h => ⟨hinv, by omega⟩⟩
    rw [ed]
    simp -implicitDefEqProofs only [go_sem, Nat.reduceAdd, Nat.reduceEqDiff, Nat.reduceLT, reduceIte, reduceCtorEq, Int.reduceLE, Int.reduceLT, Int.reduceEq, Int.reduceAdd, Int.reduceMul, Int.reduceSub, Nat.reduceMul, Nat.reduceSub, Nat.reducePow, Nat.reduceLeDiff, Int.reduceToNat, DD, x_app, x_ga0, x_gas, x_gan, Int.cast_ofNat_Int, eq_self, Int.zero_lt_one, Bool.not_false, Bool.not_true, beq_self_eq_true, k0, k3, Int.lt_irrefl]
  · have c1 : (i : Int) < (n : Int) := by omega
    have ci : IntKind.i64.wrap ((i : Int) + 1) = ((i + 1 : Nat) : Int) := by rw [wrap_i64 (by omega) (by omega)]; omega
    have c2 : (0 : Int) ≤ (i : Int) := by omega
    have c4 : i * 6 < n * 6 := by omega
    have c5 : i * 6 + 3 ≤ n * 6 := by omega
    have c6 : i * 6 + 3 + 3 ≤ n * 6 := by omega
    have hc := qcl_lo F (show i < n by omega)
    have hc' := qcl_hi F (show i < n by omega)
    have q1 := small14_s (F i).n (F i).l (F i).e
    have q2 := small14_s (F i).m (F i).k (F i).f
    by_cases h1 : (F i).l.length ≤ 3 ∧ -200 ≤ (F i).e ∧ (F i).e ≤ 200
    · rw [decide_eq_true h1] at q1
      by_cases h2 : (F i).k.length ≤ 3 ∧ -200 ≤ (F i).f ∧ (F i).f ≤ 200
      · rw [decide_eq_true h2] at q2
        simp -implicitDefEqProofs only [go_sem, Nat.reduceAdd, Nat.reduceEqDiff, Nat.reduceLT, reduceIte, reduceCtorEq, Int.reduceLE, Int.reduceLT, Int.reduceEq, Int.reduceAdd, Int.reduceMul, Int.reduceSub, Nat.reduceMul, Nat.reduceSub, Nat.reducePow, Nat.reduceLeDiff, Int.reduceToNat, DD, x_app, x_ga0, x_gas, x_gan, Int.cast_ofNat_Int, eq_self, Int.zero_lt_one, Bool.not_false, Bool.not_true, beq_self_eq_true, k0, k3, ci, c1, c2, c4, c5, c6, hc, hc', hL]
        refine callK_pl annuluslaw14_small.call (q1) (pl1 (pld_dy _ _ _)) ?_
        simp -implicitDefEqProofs only [go_sem, Nat.reduceAdd, Nat.reduceEqDiff, Nat.reduceLT, reduceIte, reduceCtorEq, Int.reduceLE, Int.reduceLT, Int.reduceEq, Int.reduceAdd, Int.reduceMul, Int.reduceSub, Nat.reduceMul, Nat.reduceSub, Nat.reducePow, Nat.reduceLeDiff, Int.reduceToNat, DD, x_app, x_ga0, x_gas, x_gan, Int.cast_ofNat_Int, eq_self, Int.zero_lt_one, Bool.not_false, Bool.not_true, beq_self_eq_true, k0, k3, ci, c1, c2, c4, c5, c6, hc, hc', hL]
        refine callK_pl annuluslaw14_small.call (q2) (pl1 (pld_dy _ _ _)) ?_
        simp -implicitDefEqProofs only [go_sem, Nat.reduceAdd, Nat.reduceEqDiff, Nat.reduceLT, reduceIte, reduceCtorEq, Int.reduceLE, Int.reduceLT, Int.reduceEq, Int.reduceAdd, Int.reduceMul, Int.reduceSub, Nat.reduceMul, Nat.reduceSub, Nat.reducePow, Nat.reduceLeDiff, Int.reduceToNat, DD, x_app, x_ga0, x_gas, x_gan, Int.cast_ofNat_Int, eq_self, Int.zero_lt_one, Bool.not_false, Bool.not_true, beq_self_eq_true, k0, k3, ci, c1, c2, c4, c5, c6, hc, hc', hL]
        exact ⟨n - (i + 1), by omega, _, i + 1, rfl, rfl, by omega, by simp [x_look, k0], by simp [x_look], fun j hj => by
          rcases Nat.lt_or_ge j i with h | h
          · exact hinv j h
          · rw [show j = i by omega]; exact ⟨h1, h2⟩⟩
      · rw [decide_eq_false h2] at q2
        rw [decide_eq_false (fun h => h2 (h.1 i (by omega)).2)]
        simp -implicitDefEqProofs only [go_sem, Nat.reduceAdd, Nat.reduceEqDiff, Nat.reduceLT, reduceIte, reduceCtorEq, Int.reduceLE, Int.reduceLT, Int.reduceEq, Int.reduceAdd, Int.reduceMul, Int.reduceSub, Nat.reduceMul, Nat.reduceSub, Nat.reducePow, Nat.reduceLeDiff, Int.reduceToNat, DD, x_app, x_ga0, x_gas, x_gan, Int.cast_ofNat_Int, eq_self, Int.zero_lt_one, Bool.not_false, Bool.not_true, beq_self_eq_true, k0, k3, ci, c1, c2, c4, c5, c6, hc, hc', hL]
        refine callK_pl annuluslaw14_small.call (q1) (pl1 (pld_dy _ _ _)) ?_
        simp -implicitDefEqProofs only [go_sem, Nat.reduceAdd, Nat.reduceEqDiff, Nat.reduceLT, reduceIte, reduceCtorEq, Int.reduceLE, Int.reduceLT, Int.reduceEq, Int.reduceAdd, Int.reduceMul, Int.reduceSub, Nat.reduceMul, Nat.reduceSub, Nat.reducePow, Nat.reduceLeDiff, Int.reduceToNat, DD, x_app, x_ga0, x_gas, x_gan, Int.cast_ofNat_Int, eq_self, Int.zero_lt_one, Bool.not_false, Bool.not_true, beq_self_eq_true, k0, k3, ci, c1, c2, c4, c5, c6, hc, hc', hL]
        refine callK_pl annuluslaw14_small.call (q2) (pl1 (pld_dy _ _ _)) ?_
        simp -implicitDefEqProofs only [go_sem, Nat.reduceAdd, Nat.reduceEqDiff, Nat.reduceLT, reduceIte, reduceCtorEq, Int.reduceLE, Int.reduceLT, Int.reduceEq, Int.reduceAdd, Int.reduceMul, Int.reduceSub, Nat.reduceMul, Nat.reduceSub, Nat.reducePow, Nat.reduceLeDiff, Int.reduceToNat, DD, x_app, x_ga0, x_gas, x_gan, Int.cast_ofNat_Int, eq_self, Int.zero_lt_one, Bool.not_false, Bool.not_true, beq_self_eq_true, k0, k3, ci, c1, c2, c4, c5, c6, hc, hc', hL]
    · rw [decide_eq_false h1] at q1
      rw [decide_eq_false (fun h => h1 (h.1 i (by omega)).1)]
      simp -implicitDefEqProofs only [go_sem, Nat.reduceAdd, Nat.reduceEqDiff, Nat.reduceLT, reduceIte, reduceCtorEq, Int.reduceLE, Int.reduceLT, Int.reduceEq, Int.reduceAdd, Int.reduceMul, Int.reduceSub, Nat.reduceMul, Nat.reduceSub, Nat.reducePow, Nat.reduceLeDiff, Int.reduceToNat, DD, x_app, x_ga0, x_gas, x_gan, Int.cast_ofNat_Int, eq_self, Int.zero_lt_one, Bool.not_false, Bool.not_true, beq_self_eq_true, k0, k3, ci, c1, c2, c4, c5, c6, hc, hc', hL]
      refine callK_pl annuluslaw14_small.call (q1) (pl1 (pld_dy _ _ _)) ?_
      simp -implicitDefEqProofs only [go_sem, Nat.reduceAdd, Nat.reduceEqDiff, Nat.reduceLT, reduceIte, reduceCtorEq, Int.reduceLE, Int.reduceLT, Int.reduceEq, Int.reduceAdd, Int.reduceMul, Int.reduceSub, Nat.reduceMul, Nat.reduceSub, Nat.reducePow, Nat.reduceLeDiff, Int.reduceToNat, DD, x_app, x_ga0, x_gas, x_gan, Int.cast_ofNat_Int, eq_self, Int.zero_lt_one, Bool.not_false, Bool.not_true, beq_self_eq_true, k0, k3, ci, c1, c2, c4, c5, c6, hc, hc', hL]
/-- two coefficients -/
def pf2 (a b : Cx) : Po := fun i => match i with | 0 => a | 1 => b | _ + 2 => zero
theorem pf2_rp {a b : Cx} (ha : CB a 20) (hb : CB b 20) : RP (pcl 2 (pf2 a b)) 2 (pf2 a b) 296 := RP_P (fun i => by
  match i with
  | 0 => exact ⟨ha.1.mono (by decide), ha.2.mono (by decide)⟩
  | 1 => exact ⟨hb.1.mono (by decide), hb.2.mono (by decide)⟩
  | _ + 2 => exact ⟨DB.zero _, DB.zero _⟩) (fun k hk => by
    match k, hk with
    | k + 2, _ => rfl) (by decide)
theorem pf2_cl (a b : Cx) : pcl 2 (pf2 a b) = CIc a ++ CIc b := by rw [pclS, pclS, pcl0]; rfl
theorem pf2_dg (a b : Cx) (h : b ≠ zero) : dg 2 (pf2 a b) = 2 := by rw [dgS, if_neg (show ¬ pf2 a b 1 = zero from h)]
theorem far_sq {v w r : Int} (hr : 0 < r) (h : v * v + w * w = r * r) {P : Nat} (hP : 1 ≤ P) (hb : bl r.natAbs ≤ P) (up : Bool) : far ⟨dv v 0, dv w 0⟩ P up = dv r 0 := by
  have e : nrm ⟨dv v 0, dv w 0⟩ = dv r 0 * dv r 0 := by
    show dv v 0 * dv v 0 + dv w 0 * dv w 0 = _
    rw [dv_mul, dv_mul, dv_mul, dv_add, h]
  unfold far
  rw [e]
  have hf : Few (dv r 0) (bl r.natAbs) 0 := Few.of (Nat.le_refl _) (by decide)
  exact droot_exact (dnum_pos.2 hr) hP (Nat.le_trans hf.1 hb) up
theorem far_c {v : Int} (hv : 0 < v) {P : Nat} (hP : 1 ≤ P) (hb : bl v.natAbs ≤ P) (up : Bool) : far (cst v) P up = dv v 0 := far_sq (w := 0) hv (by omega) hP hb up
theorem osum_2 (a b : Cx) (k : Int) (P : Nat) (up : Bool) : osum (pf2 a b) k P up 2 = if (1 : Int) = k then (if (0 : Int) = k then 0 else 0 + far a P up) else (if (0 : Int) = k then 0 else 0 + far a P up) + far b P up := rfl
theorem known14_s : Sat CT false 31 [] (Bo true) := by
  refine sat_of annuluslaw14_known.ok (by simp) ?_
  have DD := annuluslaw14_known.dr
  simp only [drP, drPx, drPt, drR, drS, drT, bodyOf, Tryd.f31, Nat.reduceEqDiff, reduceIte, true_and, and_true] at DD
  have b5 := cst_cb (v := 5) (by decide)
  have b1 := cst_cb (v := 1) (by decide)
  have n1 : cst 1 ≠ zero := cst_ne (by decide)
  have k5 := rof8_sat 5 0 (by decide) (by decide) (by decide) (by decide)
  have k1 := rof8_sat 1 0 (by decide) (by decide) (by decide) (by decide)
  have k34 := rof8_sat 3 4 (by decide) (by decide) (by decide) (by decide)
  rw [cst_dv] at k5 k1
  have h20 : heldP 20 = 20 := rfl
  have f5 : ∀ up, far (cst 5) 20 up = dv 5 0 := far_c (by decide) (by decide) (by decide)
  have f1 : ∀ up, far (cst 1) 20 up = dv 1 0 := far_c (by decide) (by decide) (by decide)
  have z0 : (0 : Dyadic) + dv 5 0 = dv 5 0 := by grind
  have z1 : (0 : Dyadic) + dv 1 0 = dv 1 0 := by grind
  have r1 := pf2_rp b5 b1
  have r2 := pf2_rp b1 b1
  have g1 := pf2_dg (cst 5) (cst 1) n1
  have g2 := pf2_dg (cst 1) (cst 1) n1
  obtain ⟨a1, _⟩ := any_s r1 (isD_pcl _ _) (by decide) 20 (by decide)
  obtain ⟨_, a2⟩ := any_s r2 (isD_pcl _ _) (by decide) 20 (by decide)
  rw [g1, h20] at a1
  rw [g2, h20] at a2
  have a1 := a1 0 (by decide) (fun i hi => absurd hi (Nat.not_lt_zero i)) (by
    show 0 < dsg (far (cst 5) 20 false - (osum (pf2 (cst 5) (cst 1)) (-1) 20 true 2 - far (cst 5) 20 true))
    rw [osum_2, if_neg (by decide), if_neg (by decide), f5, f5, f1, z0, dv_add, dv_sub, dv_sub, dsg_dv]
    decide)
  have hno : ∀ i, i < 2 → ¬ aYes (pf2 (cst 1) (cst 1)) 2 i 20 := fun i hi => by
    have e : pf2 (cst 1) (cst 1) i = cst 1 := by
      match i, hi with
      | 0, _ => rfl
      | 1, _ => rfl
    unfold aYes
    rw [e, osum_2, if_neg (by decide), if_neg (by decide), f1, f1, z1, dv_add, dv_sub, dv_sub, dsg_dv]
    decide
  have a2 := a2 hno
  obtain ⟨t0, _, _⟩ := test_in r1 (isD_pcl _ _) (by decide) 0 (by rw [g1]; decide) 20 (by decide)
  obtain ⟨_, t1, _⟩ := test_in r1 (isD_pcl _ _) (by decide) 1 (by rw [g1]; decide) 20 (by decide)
  rw [g1, h20] at t0 t1
  have t0 := t0 (by
    show 0 < dsg (far (cst 5) 20 false - osum (pf2 (cst 5) (cst 1)) 0 20 true 2)
    rw [osum_2, if_neg (by decide), if_pos rfl, f5, f1, z1, dv_sub, dsg_dv]
    decide)
  have t1 := t1 (by
    show ¬ 0 < dsg (far (cst 1) 20 false - osum (pf2 (cst 5) (cst 1)) 1 20 true 2)
    rw [osum_2, if_pos rfl, if_neg (by decide), f5, f1, z0, dv_sub, dsg_dv]
    decide) (by
    show dsg (far (cst 1) 20 true - osum (pf2 (cst 5) (cst 1)) 1 20 false 2) ≤ 0
    rw [osum_2, if_pos rfl, if_neg (by decide), f5, f1, z0, dv_sub, dsg_dv]
    decide)
  have t2 := test_out r1 (isD_pcl _ _) 2 20 (.inr (by rw [g1]; decide))
  have b34 : CB ⟨dv 3 0, dv 4 0⟩ 20 := ⟨DB.raw (m := 3) (e := 0) (L := 7) (E := 0) (B := 20) (by decide) (by decide) (by decide), DB.raw (m := 4) (e := 0) (L := 7) (E := 0) (B := 20) (by decide) (by decide) (by decide)⟩
  have ff := far_s (RC_C b34) (by decide) 10 1
  rw [show heldP 10 = 10 from rfl, far_sq (r := 5) (by decide) (by decide) (by decide) (by decide)] at ff
  have o5 := rof4_sat 5 (by decide) (by decide)
  have d5 : DB (dv 5 0) 10 := (few_c 5 (by decide)).1
  have e5 := requal4d d5 d5 (by decide) (by decide)
  rw [decide_eq_true rfl] at e5
  rw [pf2_cl] at a1 a2 t0 t1 t2
  simp -implicitDefEqProofs only [go_sem, Nat.reduceAdd, Nat.reduceEqDiff, Nat.reduceLT, reduceIte, reduceCtorEq, Int.reduceLE, Int.reduceLT, Int.reduceEq, Int.reduceAdd, Int.reduceMul, Int.reduceSub, Nat.reduceMul, Nat.reduceSub, Nat.reducePow, Nat.reduceLeDiff, Int.reduceToNat, Tryd.f31, DD]
  refine callK_pl annulusref8_Of.call (k5) (pl2 pld_int pld_int) ?_
  simp -implicitDefEqProofs only [go_sem, Nat.reduceAdd, Nat.reduceEqDiff, Nat.reduceLT, reduceIte, reduceCtorEq, Int.reduceLE, Int.reduceLT, Int.reduceEq, Int.reduceAdd, Int.reduceMul, Int.reduceSub, Nat.reduceMul, Nat.reduceSub, Nat.reducePow, Nat.reduceLeDiff, Int.reduceToNat, DD]
  refine callK_pl annulusref8_Of.call (k1) (pl2 pld_int pld_int) ?_
  simp -implicitDefEqProofs only [go_sem, Nat.reduceAdd, Nat.reduceEqDiff, Nat.reduceLT, reduceIte, reduceCtorEq, Int.reduceLE, Int.reduceLT, Int.reduceEq, Int.reduceAdd, Int.reduceMul, Int.reduceSub, Nat.reduceMul, Nat.reduceSub, Nat.reducePow, Nat.reduceLeDiff, Int.reduceToNat, DD]
  have R0 : RSl 6 (.own 6 0 0 2) [⟨CIc (cst 5) ++ CIc (cst 1), true, true⟩] (CIc (cst 5) ++ CIc (cst 1)) 2 := .inr ⟨_, true, rfl, rfl, by simp, rfl⟩
  have i1 : ∀ c ∈ CIc (cst 5) ++ CIc (cst 1), IsD c := by rw [← pf2_cl]; exact isD_pcl _ _
  have i2 : ∀ c ∈ CIc (cst 1) ++ CIc (cst 1), IsD c := by rw [← pf2_cl]; exact isD_pcl _ _
  refine callK_ar pellet_Any.call a1 (.cons (.row R0 rfl i1) (.cons (.pl pld_int) .nil)) rfl ?_
  intro H1 hk1
  have R1 := hk1.2 _ _ _ _ R0
  clear hk1 R0
  simp -implicitDefEqProofs only [go_sem, Nat.reduceAdd, Nat.reduceEqDiff, Nat.reduceLT, reduceIte, reduceCtorEq, Int.reduceLE, Int.reduceLT, Int.reduceEq, Int.reduceAdd, Int.reduceMul, Int.reduceSub, Nat.reduceMul, Nat.reduceSub, Nat.reducePow, Nat.reduceLeDiff, Int.reduceToNat, DD]
  refine callK_pl annulusref8_Of.call (k1) (pl2 pld_int pld_int) ?_
  simp -implicitDefEqProofs only [go_sem, Nat.reduceAdd, Nat.reduceEqDiff, Nat.reduceLT, reduceIte, reduceCtorEq, Int.reduceLE, Int.reduceLT, Int.reduceEq, Int.reduceAdd, Int.reduceMul, Int.reduceSub, Nat.reduceMul, Nat.reduceSub, Nat.reducePow, Nat.reduceLeDiff, Int.reduceToNat, DD]
  refine callK_pl annulusref8_Of.call (k1) (pl2 pld_int pld_int) ?_
  simp -implicitDefEqProofs only [go_sem, Nat.reduceAdd, Nat.reduceEqDiff, Nat.reduceLT, reduceIte, reduceCtorEq, Int.reduceLE, Int.reduceLT, Int.reduceEq, Int.reduceAdd, Int.reduceMul, Int.reduceSub, Nat.reduceMul, Nat.reduceSub, Nat.reducePow, Nat.reduceLeDiff, Int.reduceToNat, DD]
  have R2 := R1.ext ⟨CIc (cst 1) ++ CIc (cst 1), true, true⟩
  refine callK_ar pellet_Any.call a2 (.cons (.row (cs := CIc (cst 1) ++ CIc (cst 1)) (.inr ⟨_, true, rfl, x_hget, by simp, rfl⟩) rfl i2) (.cons (.pl pld_int) .nil)) rfl ?_
  intro H2 hk2
  have R3 := hk2.2 _ _ _ _ R2
  clear hk2 R2 R1
  simp -implicitDefEqProofs only [go_sem, Nat.reduceAdd, Nat.reduceEqDiff, Nat.reduceLT, reduceIte, reduceCtorEq, Int.reduceLE, Int.reduceLT, Int.reduceEq, Int.reduceAdd, Int.reduceMul, Int.reduceSub, Nat.reduceMul, Nat.reduceSub, Nat.reducePow, Nat.reduceLeDiff, Int.reduceToNat, DD]
  refine callK_ar pellet_Test.call t0 (.cons (.row R3 rfl i1) (.cons (.pl pld_int) (.cons (.pl pld_int) .nil))) rfl ?_
  intro H3 hk3
  have R4 := hk3.2 _ _ _ _ R3
  clear hk3 R3
  simp -implicitDefEqProofs only [go_sem, Nat.reduceAdd, Nat.reduceEqDiff, Nat.reduceLT, reduceIte, reduceCtorEq, Int.reduceLE, Int.reduceLT, Int.reduceEq, Int.reduceAdd, Int.reduceMul, Int.reduceSub, Nat.reduceMul, Nat.reduceSub, Nat.reducePow, Nat.reduceLeDiff, Int.reduceToNat, DD]
  refine callK_ar pellet_Test.call t1 (.cons (.row R4 rfl i1) (.cons (.pl pld_int) (.cons (.pl pld_int) .nil))) rfl ?_
  intro H4 hk4
  have R5 := hk4.2 _ _ _ _ R4
  clear hk4 R4
  simp -implicitDefEqProofs only [go_sem, Nat.reduceAdd, Nat.reduceEqDiff, Nat.reduceLT, reduceIte, reduceCtorEq, Int.reduceLE, Int.reduceLT, Int.reduceEq, Int.reduceAdd, Int.reduceMul, Int.reduceSub, Nat.reduceMul, Nat.reduceSub, Nat.reducePow, Nat.reduceLeDiff, Int.reduceToNat, DD]
  refine callK_ar pellet_Test.call t2 (.cons (.row R5 rfl i1) (.cons (.pl pld_int) (.cons (.pl pld_int) .nil))) rfl ?_
  intro H5 hk5
  clear hk5
  simp -implicitDefEqProofs only [go_sem, Nat.reduceAdd, Nat.reduceEqDiff, Nat.reduceLT, reduceIte, reduceCtorEq, Int.reduceLE, Int.reduceLT, Int.reduceEq, Int.reduceAdd, Int.reduceMul, Int.reduceSub, Nat.reduceMul, Nat.reduceSub, Nat.reducePow, Nat.reduceLeDiff, Int.reduceToNat, DD]
  refine callK_pl annulusref8_Of.call (k34) (pl2 pld_int pld_int) ?_
  simp -implicitDefEqProofs only [go_sem, Nat.reduceAdd, Nat.reduceEqDiff, Nat.reduceLT, reduceIte, reduceCtorEq, Int.reduceLE, Int.reduceLT, Int.reduceEq, Int.reduceAdd, Int.reduceMul, Int.reduceSub, Nat.reduceMul, Nat.reduceSub, Nat.reducePow, Nat.reduceLeDiff, Int.reduceToNat, DD]
  refine callK_pl pellet_Far.call (ff) (pl3 (pld_CI ⟨dv 3 0, dv 4 0⟩) pld_int pld_int) ?_
  simp -implicitDefEqProofs only [go_sem, Nat.reduceAdd, Nat.reduceEqDiff, Nat.reduceLT, reduceIte, reduceCtorEq, Int.reduceLE, Int.reduceLT, Int.reduceEq, Int.reduceAdd, Int.reduceMul, Int.reduceSub, Nat.reduceMul, Nat.reduceSub, Nat.reducePow, Nat.reduceLeDiff, Int.reduceToNat, DD]
  refine callK_q annulusref4_Of.call (o5) rfl rfl ?_
  simp -implicitDefEqProofs only [go_sem, Nat.reduceAdd, Nat.reduceEqDiff, Nat.reduceLT, reduceIte, reduceCtorEq, Int.reduceLE, Int.reduceLT, Int.reduceEq, Int.reduceAdd, Int.reduceMul, Int.reduceSub, Nat.reduceMul, Nat.reduceSub, Nat.reducePow, Nat.reduceLeDiff, Int.reduceToNat, DD]
  refine callK_q annulusref4_Equal.call (e5) rfl rfl ?_
  simp -implicitDefEqProofs only [go_sem, Nat.reduceAdd, Nat.reduceEqDiff, Nat.reduceLT, reduceIte, reduceCtorEq, Int.reduceLE, Int.reduceLT, Int.reduceEq, Int.reduceAdd, Int.reduceMul, Int.reduceSub, Nat.reduceMul, Nat.reduceSub, Nat.reducePow, Nat.reduceLeDiff, Int.reduceToNat, DD]
end Go.Ab

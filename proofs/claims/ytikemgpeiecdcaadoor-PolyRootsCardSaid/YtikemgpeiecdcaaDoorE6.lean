/- Contracts of this seat's functions (of each call: what it answers), walked over the abstract machine, and the laws of numbers that they want. Conditions: those that each theorem states. -/
import Derived.Test.YtikemgpeiecdcaaDoorE4
set_option linter.unusedVariables false
set_option maxRecDepth 20000
set_option linter.unusedSimpArgs false
set_option linter.unusedSectionVars false
namespace Go.Ab
open Go.Proofs
open Cx (zero one)
attribute [-go_sem] appF newsF
variable {a b : AV} {z w : Cx} {B C n m : Nat} {cs ds : List AV} {f g : Po}
/-- what is left of a product from roots -/
theorem frm_left (r : Nat → Cx) (n i : Nat) (hi : i < n) : pq (n - i + 1) (frm (fun j => r (i + j)) (n - i)) (r i) = frm (fun j => r (i + 1 + j)) (n - (i + 1)) := by
  obtain ⟨d, hd⟩ : ∃ d, n - i = d + 1 := ⟨n - i - 1, by omega⟩
  rw [hd, frm_front, show n - (i + 1) = d by omega]
  have e : (fun j => r (i + (j + 1))) = fun j => r (i + 1 + j) := funext (fun j => by congr 1; omega)
  show pq (d + 1 + 1) (conv (frm (fun j => r (i + (j + 1))) d) (lin (r (i + 0)))) (r i) = _
  rw [Nat.add_zero, e]
  exact pq_lin (Sp.frm _ d) (r i)
theorem frm_nought (r : Nat → Cx) (n i : Nat) (hi : i < n) : ev (n - i + 1) (frm (fun j => r (i + j)) (n - i)) (r i) = zero := by
  rw [ev_frm]
  have := pev_root (fun j => r (i + j)) (i := 0) (n := n - i) (by omega)
  simpa using this
theorem pev_cb {r : Nat → Cx} {z : Cx} {n : Nat} (h : ∀ i, i < n → CB (r i) 296) (hz : CB z 296) (i : Nat) (hi : i ≤ n) : CB (pev r z i) (i * 298 + 1) := by
  induction i with
  | zero => rw [pev0]; exact CB.one (by decide)
  | succ i ih =>
    rw [pevS]
    exact ((ih (by omega)).mul (hz.sub (h i (by omega)))).mono (by omega)
theorem frm_top (r : Nat → Cx) (n : Nat) : frm r n n = one := by
  induction n with
  | zero => rw [frm0]; rfl
  | succ n ih =>
    rw [frmS]
    have := conv_top (Sp.frm r n) (Sp.lin (r n))
    rw [this, ih]
    exact Cx.mul_one one
set_option maxRecDepth 100000 in
set_option maxHeartbeats 4000000 in
theorem polyRoots_sat (F : Nat → Raw) (hF : ∀ i, (F i).ok) (hn : n ≤ 9223372036854775807) (r : Raw) (hr : r.ok) : Sat CT false 8 [.sl n (qcl n F), .agg r.cells] (Bo true) := by
  refine sat_of annuluslaw11_PolyRoots.ok (by simp) ?_
  have DD := annuluslaw11_PolyRoots.dr
  simp only [drP, drPx, drR, drS, bodyOf, Tryd.f8, Nat.reduceEqDiff, reduceIte, true_and, and_true] at DD
  have kn := known11_s
  have fw := few11_s F hn
  have pt := point11_s r
  by_cases hf : (∀ i, i < n → (F i).sm) ∧ n ≤ 14
  · rw [decide_eq_true hf] at fw
    by_cases h8 : n ≤ 8
    · have g8 : ¬ (8 : Int) < (n : Int) := by omega
      by_cases hz : r.sm
      · rw [decide_eq_true hz] at pt
        have h := RP_q (fun i _ => hF i) hf.1 (by omega)
        have hcs := isD_qcl n F
        have hrc := r.rc hr hz
        have hlen := h.len
        have hrr := h.el
        generalize qpo n F = u at *
        generalize qcl n F = cs at *
        generalize r.z = z at hrc
        have hzb := hrc.cb
        have hcb : ∀ i, i < n → CB (u i) 296 := fun i hi => (hrr i hi).cb
        have f1 := pfrom_s u hlen hrr (by omega) (by decide) (by omega)
        have bF := (PB.frm hcb (by decide) (Nat.le_refl n)).mono (C := 2393) (by omega)
        have rF := RP_P bF (Sp.frm u n) (by omega)
        have k1 := rof_c 1 (by decide)
        have d1 := pdeg_s rF (by omega) (isD_pcl _ _)
        rw [dg_frm] at d1
        have e1 := requal8 (cst_cb (v := 1) (by decide)) (by decide)
        have mz := Nat.mul_le_mul_right (296 + 2) (show n + 1 ≤ 9 by omega)
        have a1 := pat11_s rF hrc (by omega)
        rw [ev_frm] at a1
        have bv := pev_cb hcb hzb n (Nat.le_refl n)
        have e2 := requal8 bv (by omega)
        have o1 := of_s (n := 1) [1] (by decide) (by decide) rfl
        have r1 := RP_P (n := 1) (PB.lpo (L := [1]) (by decide)) (Sp.lpo [1]) (by decide)
        have s1 := psame_y r1 r1 (by decide) (by decide) (isD_pcl _ _) (isD_pcl _ _) rfl
        have bq : ∀ i, i ≤ n → PB (frm (fun j => u (i + j)) (n - i)) 2393 := fun i hi => (PB.frm (N := n - i) (fun j hj => hcb (i + j) (by omega)) (by decide) (Nat.le_refl _)).mono (by have := Nat.mul_le_mul_right (296 + 3) (show n - i ≤ 8 by omega); omega)
        have hP : PA (n + 1) (frm u n) = .sl (n + 1) (pcl (n + 1) (frm u n)) := rfl
        have hL := pcl_len (n + 1) (frm u n)
        have ht := pcl_el (n := n + 1) (frm u n) (i := n) (by omega)
        rw [frm_top, cst_1] at ht
        have c1 : ¬ ((n + 1 : Nat) : Int) - 1 = (n : Int) → False := fun q => q (by omega)
        have c2 : ((n + 1 : Nat) : Int) - 1 = (n : Int) := by omega
        have c3 : IntKind.i64.wrap ((n : Int) + 1) = ((n + 1 : Nat) : Int) := by rw [wrap_id (by omega)]; omega
        have c4 : (0 : Int) ≤ (n : Int) := by omega
        have c5 : (n : Int) < ((n + 1 : Nat) : Int) := by omega
        have c6 : n * 6 < (n + 1) * 6 := by omega
        have c7 : n * 6 + 6 ≤ (n + 1) * 6 := by omega
        simp -implicitDefEqProofs only [go_sem, Nat.reduceAdd, Nat.reduceEqDiff, Nat.reduceLT, reduceIte, reduceCtorEq, Int.reduceLE, Int.reduceLT, Int.reduceEq, Int.reduceAdd, Int.reduceMul, Int.reduceSub, Nat.reduceMul, Nat.reduceSub, Nat.reducePow, Nat.reduceLeDiff, Int.reduceToNat, Tryd.f8, DD, x_app, x_ga0, x_gas, x_gan, Int.cast_ofNat_Int, eq_self, Int.zero_lt_one, Bool.not_false, Bool.not_true, beq_self_eq_true, g8, hP, hL, ht, c2, c3, c4, c5, c6, c7]
        refine callK_pl annuluslaw11_known.call (kn) (pl0) ?_
        simp -implicitDefEqProofs only [go_sem, Nat.reduceAdd, Nat.reduceEqDiff, Nat.reduceLT, reduceIte, reduceCtorEq, Int.reduceLE, Int.reduceLT, Int.reduceEq, Int.reduceAdd, Int.reduceMul, Int.reduceSub, Nat.reduceMul, Nat.reduceSub, Nat.reducePow, Nat.reduceLeDiff, Int.reduceToNat, DD, x_app, x_ga0, x_gas, x_gan, Int.cast_ofNat_Int, eq_self, Int.zero_lt_one, Bool.not_false, Bool.not_true, beq_self_eq_true, g8, hP, hL, ht, c2, c3, c4, c5, c6, c7]
        refine callK_pl annuluslaw11_few.call (fw) (pl1 (pld_sl hcs)) ?_
        simp -implicitDefEqProofs only [go_sem, Nat.reduceAdd, Nat.reduceEqDiff, Nat.reduceLT, reduceIte, reduceCtorEq, Int.reduceLE, Int.reduceLT, Int.reduceEq, Int.reduceAdd, Int.reduceMul, Int.reduceSub, Nat.reduceMul, Nat.reduceSub, Nat.reducePow, Nat.reduceLeDiff, Int.reduceToNat, DD, x_app, x_ga0, x_gas, x_gan, Int.cast_ofNat_Int, eq_self, Int.zero_lt_one, Bool.not_false, Bool.not_true, beq_self_eq_true, g8, hP, hL, ht, c2, c3, c4, c5, c6, c7]
        refine callK_pl annuluslaw11_point.call (pt) (pl1 (pld_raw _)) ?_
        simp -implicitDefEqProofs only [go_sem, Nat.reduceAdd, Nat.reduceEqDiff, Nat.reduceLT, reduceIte, reduceCtorEq, Int.reduceLE, Int.reduceLT, Int.reduceEq, Int.reduceAdd, Int.reduceMul, Int.reduceSub, Nat.reduceMul, Nat.reduceSub, Nat.reducePow, Nat.reduceLeDiff, Int.reduceToNat, DD, x_app, x_ga0, x_gas, x_gan, Int.cast_ofNat_Int, eq_self, Int.zero_lt_one, Bool.not_false, Bool.not_true, beq_self_eq_true, g8, hP, hL, ht, c2, c3, c4, c5, c6, c7]
        refine callK_pl poly_From.call (f1) (pl1 (pld_sl hcs)) ?_
        simp -implicitDefEqProofs only [go_sem, Nat.reduceAdd, Nat.reduceEqDiff, Nat.reduceLT, reduceIte, reduceCtorEq, Int.reduceLE, Int.reduceLT, Int.reduceEq, Int.reduceAdd, Int.reduceMul, Int.reduceSub, Nat.reduceMul, Nat.reduceSub, Nat.reducePow, Nat.reduceLeDiff, Int.reduceToNat, DD, x_app, x_ga0, x_gas, x_gan, Int.cast_ofNat_Int, eq_self, Int.zero_lt_one, Bool.not_false, Bool.not_true, beq_self_eq_true, g8, hP, hL, ht, c2, c3, c4, c5, c6, c7]
        refine callK_pl poly_Degree.call (d1) (pl1 (pld_PA _ _)) ?_
        simp -implicitDefEqProofs only [go_sem, Nat.reduceAdd, Nat.reduceEqDiff, Nat.reduceLT, reduceIte, reduceCtorEq, Int.reduceLE, Int.reduceLT, Int.reduceEq, Int.reduceAdd, Int.reduceMul, Int.reduceSub, Nat.reduceMul, Nat.reduceSub, Nat.reducePow, Nat.reduceLeDiff, Int.reduceToNat, DD, x_app, x_ga0, x_gas, x_gan, Int.cast_ofNat_Int, eq_self, Int.zero_lt_one, Bool.not_false, Bool.not_true, beq_self_eq_true, g8, hP, hL, ht, c2, c3, c4, c5, c6, c7]
        refine callK_pl annulusref8_Of.call (k1) (pl2 pld_int pld_int) ?_
        simp -implicitDefEqProofs only [go_sem, Nat.reduceAdd, Nat.reduceEqDiff, Nat.reduceLT, reduceIte, reduceCtorEq, Int.reduceLE, Int.reduceLT, Int.reduceEq, Int.reduceAdd, Int.reduceMul, Int.reduceSub, Nat.reduceMul, Nat.reduceSub, Nat.reducePow, Nat.reduceLeDiff, Int.reduceToNat, DD, x_app, x_ga0, x_gas, x_gan, Int.cast_ofNat_Int, eq_self, Int.zero_lt_one, Bool.not_false, Bool.not_true, beq_self_eq_true, g8, hP, hL, ht, c2, c3, c4, c5, c6, c7]
        refine callK_pl annulusref8_Equal.call (e1) (pl2 (pld_CI _) (pld_CI _)) ?_
        simp -implicitDefEqProofs only [go_sem, Nat.reduceAdd, Nat.reduceEqDiff, Nat.reduceLT, reduceIte, reduceCtorEq, Int.reduceLE, Int.reduceLT, Int.reduceEq, Int.reduceAdd, Int.reduceMul, Int.reduceSub, Nat.reduceMul, Nat.reduceSub, Nat.reducePow, Nat.reduceLeDiff, Int.reduceToNat, DD, x_app, x_ga0, x_gas, x_gan, Int.cast_ofNat_Int, eq_self, Int.zero_lt_one, Bool.not_false, Bool.not_true, beq_self_eq_true, g8, hP, hL, ht, c2, c3, c4, c5, c6, c7]
        refine callK_pl annulusref8_Of.call (k1) (pl2 pld_int pld_int) ?_
        simp -implicitDefEqProofs only [go_sem, Nat.reduceAdd, Nat.reduceEqDiff, Nat.reduceLT, reduceIte, reduceCtorEq, Int.reduceLE, Int.reduceLT, Int.reduceEq, Int.reduceAdd, Int.reduceMul, Int.reduceSub, Nat.reduceMul, Nat.reduceSub, Nat.reducePow, Nat.reduceLeDiff, Int.reduceToNat, DD, x_app, x_ga0, x_gas, x_gan, Int.cast_ofNat_Int, eq_self, Int.zero_lt_one, Bool.not_false, Bool.not_true, beq_self_eq_true, g8, hP, hL, ht, c2, c3, c4, c5, c6, c7]
        refine loop_of aW0_mono (fun q σ => ∃ sl H i, σ = ⟨sl, H⟩ ∧ q = n - i ∧ i ≤ n ∧ look sl 0 = .sl n cs ∧ look sl 3 = .ptr 0 0 ∧ look sl 5 = PA (n + 1) (frm u n) ∧ look sl 6 = .ptr 1 0 ∧ look sl 7 = PA (n - i + 1) (frm (fun j => u (i + j)) (n - i)) ∧ look sl 8 = I64 (i : Nat) ∧ 1 < H.length ∧ H.getD 0 ⟨[], false, false⟩ = ⟨r.cells, true, true⟩ ∧ H.getD 1 ⟨[], false, false⟩ = ⟨CIc (pev u z i), true, true⟩) ?_ (n := n)
          ⟨_, _, 0, rfl, rfl, Nat.zero_le _, by simp [x_look], by simp [x_look], by simp [x_look, PA], by simp [x_look], by simp [x_look, PA], by simp [x_look], by simp, rfl, by rw [pev0, cst_1]; rfl⟩
        rintro q _ ⟨sl, H, i, rfl, rfl, hi, k0, k3, k5, k6, k7, k8, hH, hg0, hg1⟩
        by_cases hid : i = n
        · subst hid
          have e7 : PA (i - i + 1) (frm (fun j => u (i + j)) (i - i)) = PA 1 (lpo [1]) := by
            rw [Nat.sub_self, frm0]
            congr 1
            funext k
            cases k with
            | zero => exact cst_1
            | succ k => show zero = lpo [1] (k + 1); exact (Sp.lpo [1] (k + 1) (by simp)).symm
          rw [e7] at k7
          have g0 : ∀ y, (H ++ [y]).getD 0 ⟨[], false, false⟩ = ⟨r.cells, true, true⟩ := fun y => by rw [getD_hp (by omega)]; exact hg0
          have g1 : ∀ y, (H ++ [y]).getD 1 ⟨[], false, false⟩ = ⟨CIc (pev u z i), true, true⟩ := fun y => by rw [getD_hp hH]; exact hg1
          simp -implicitDefEqProofs only [go_sem, Nat.reduceAdd, Nat.reduceEqDiff, Nat.reduceLT, reduceIte, reduceCtorEq, Int.reduceLE, Int.reduceLT, Int.reduceEq, Int.reduceAdd, Int.reduceMul, Int.reduceSub, Nat.reduceMul, Nat.reduceSub, Nat.reducePow, Nat.reduceLeDiff, Int.reduceToNat, DD, x_app, x_ga0, x_gas, x_gan, Int.cast_ofNat_Int, eq_self, Int.zero_lt_one, Bool.not_false, Bool.not_true, beq_self_eq_true, k0, k3, k5, k6, k7, k8, g0, g1, Int.lt_irrefl]
          refine callK_fz (sz := 1) (cs := i64s [1]) annuluslaw11_of.call o1 (.inr ⟨_, rfl, x_hget, rfl⟩) rfl (isD_i64s _) rfl ?_
          simp -implicitDefEqProofs only [go_sem, Nat.reduceAdd, Nat.reduceEqDiff, Nat.reduceLT, reduceIte, reduceCtorEq, Int.reduceLE, Int.reduceLT, Int.reduceEq, Int.reduceAdd, Int.reduceMul, Int.reduceSub, Nat.reduceMul, Nat.reduceSub, Nat.reducePow, Nat.reduceLeDiff, Int.reduceToNat, DD, x_app, x_ga0, x_gas, x_gan, Int.cast_ofNat_Int, eq_self, Int.zero_lt_one, Bool.not_false, Bool.not_true, beq_self_eq_true, k0, k3, k5, k6, k7, k8, g0, g1]
          refine callK_pl poly_Same.call (s1) (pl2 (pld_PA _ _) (pld_PA _ _)) ?_
          simp -implicitDefEqProofs only [go_sem, Nat.reduceAdd, Nat.reduceEqDiff, Nat.reduceLT, reduceIte, reduceCtorEq, Int.reduceLE, Int.reduceLT, Int.reduceEq, Int.reduceAdd, Int.reduceMul, Int.reduceSub, Nat.reduceMul, Nat.reduceSub, Nat.reducePow, Nat.reduceLeDiff, Int.reduceToNat, DD, x_app, x_ga0, x_gas, x_gan, Int.cast_ofNat_Int, eq_self, Int.zero_lt_one, Bool.not_false, Bool.not_true, beq_self_eq_true, k0, k3, k5, k6, k7, k8, g0, g1]
          refine callK_pl poly_At.call (a1) (pl2 (pld_PA _ _) (pld_raw _)) ?_
          simp -implicitDefEqProofs only [go_sem, Nat.reduceAdd, Nat.reduceEqDiff, Nat.reduceLT, reduceIte, reduceCtorEq, Int.reduceLE, Int.reduceLT, Int.reduceEq, Int.reduceAdd, Int.reduceMul, Int.reduceSub, Nat.reduceMul, Nat.reduceSub, Nat.reducePow, Nat.reduceLeDiff, Int.reduceToNat, DD, x_app, x_ga0, x_gas, x_gan, Int.cast_ofNat_Int, eq_self, Int.zero_lt_one, Bool.not_false, Bool.not_true, beq_self_eq_true, k0, k3, k5, k6, k7, k8, g0, g1]
          refine callK_pl annulusref8_Equal.call (e2) (pl2 (pld_CI _) (pld_CI _)) ?_
          simp -implicitDefEqProofs only [go_sem, Nat.reduceAdd, Nat.reduceEqDiff, Nat.reduceLT, reduceIte, reduceCtorEq, Int.reduceLE, Int.reduceLT, Int.reduceEq, Int.reduceAdd, Int.reduceMul, Int.reduceSub, Nat.reduceMul, Nat.reduceSub, Nat.reducePow, Nat.reduceLeDiff, Int.reduceToNat, DD, x_app, x_ga0, x_gas, x_gan, Int.cast_ofNat_Int, eq_self, Int.zero_lt_one, Bool.not_false, Bool.not_true, beq_self_eq_true, k0, k3, k5, k6, k7, k8, g0, g1]
        · have c1 : (i : Int) < (n : Int) := by omega
          have ci : IntKind.i64.wrap ((i : Int) + 1) = ((i + 1 : Nat) : Int) := by rw [wrap_id (by omega)]; omega
          have c2 : (0 : Int) ≤ (i : Int) := by omega
          have c4 : i * 6 < cs.length := by omega
          have c5 : i * 6 + 6 ≤ cs.length := by omega
          have hri := hrr i (by omega)
          obtain ⟨s, l, e, t, kk, gg, hc, _⟩ := id hri
          rw [hc] at hri
          have hc : (cs.drop (i * 6)).take 6 = [Bo s, U32 l, I64 e, Bo t, U32 kk, I64 gg] := AV.agg.inj hc
          have q1 := pat11_s rF hri (by omega)
          rw [ev_frm, pev_root u (show i < n by omega)] at q1
          have q2 := rzero_r (RC_C (CB.zero 20)) (by decide)
          rw [decide_eq_true rfl] at q2
          have m2 := Nat.mul_le_mul_right (296 + 2) (show n - i + 1 ≤ 9 by omega)
          have q3 := ppart_s (RP_P (bq i hi) (Sp.frm _ (n - i)) (by omega)) hri (by omega) (by omega)
          rw [frm_left u n i (by omega), frm_nought u n i (by omega)] at q3
          have hd3 : dg (n - i + 1) (frm (fun j => u (i + 1 + j)) (n - (i + 1))) = n - (i + 1) + 1 := by
            rw [dg_ind ((Sp.frm (fun j => u (i + 1 + j)) (n - (i + 1))).mono (by omega)) (Sp.frm (fun j => u (i + 1 + j)) (n - (i + 1))), dg_frm]
          rw [hd3] at q3
          have q4 := rcplx_r hrc (by omega)
          have q5 := rcplx_r hri (by omega)
          have q6 := rsub8 hzb (hcb i (by omega)) (by omega) (by omega)
          have q7 := rmul8 (pev_cb hcb hzb i hi) (hzb.sub (hcb i (by omega))) (by omega)
          rw [← pevS] at q7
          have g0 : ∀ y, (H ++ [y]).getD 0 ⟨[], false, false⟩ = ⟨r.cells, true, true⟩ := fun y => by rw [getD_hp (by omega)]; exact hg0
          have g1 : ∀ y, (H ++ [y]).getD 1 ⟨[], false, false⟩ = ⟨CIc (pev u z i), true, true⟩ := fun y => by rw [getD_hp hH]; exact hg1
          simp -implicitDefEqProofs only [go_sem, Nat.reduceAdd, Nat.reduceEqDiff, Nat.reduceLT, reduceIte, reduceCtorEq, Int.reduceLE, Int.reduceLT, Int.reduceEq, Int.reduceAdd, Int.reduceMul, Int.reduceSub, Nat.reduceMul, Nat.reduceSub, Nat.reducePow, Nat.reduceLeDiff, Int.reduceToNat, DD, x_app, x_ga0, x_gas, x_gan, Int.cast_ofNat_Int, eq_self, Int.zero_lt_one, Bool.not_false, Bool.not_true, beq_self_eq_true, k0, k3, k5, k6, k7, k8, ci, c1, c2, c4, c5, hc, hg0, hg1, g0, g1]
          refine callK_pl poly_At.call (q1) (pl2 (pld_PA _ _) (pld_RC hri)) ?_
          simp -implicitDefEqProofs only [go_sem, Nat.reduceAdd, Nat.reduceEqDiff, Nat.reduceLT, reduceIte, reduceCtorEq, Int.reduceLE, Int.reduceLT, Int.reduceEq, Int.reduceAdd, Int.reduceMul, Int.reduceSub, Nat.reduceMul, Nat.reduceSub, Nat.reducePow, Nat.reduceLeDiff, Int.reduceToNat, DD, x_app, x_ga0, x_gas, x_gan, Int.cast_ofNat_Int, eq_self, Int.zero_lt_one, Bool.not_false, Bool.not_true, beq_self_eq_true, k0, k3, k5, k6, k7, k8, ci, c1, c2, c4, c5, hc, hg0, hg1, g0, g1]
          refine callK_pl annulusref8_Zero.call (q2) (pl1 (pld_CI _)) ?_
          simp -implicitDefEqProofs only [go_sem, Nat.reduceAdd, Nat.reduceEqDiff, Nat.reduceLT, reduceIte, reduceCtorEq, Int.reduceLE, Int.reduceLT, Int.reduceEq, Int.reduceAdd, Int.reduceMul, Int.reduceSub, Nat.reduceMul, Nat.reduceSub, Nat.reducePow, Nat.reduceLeDiff, Int.reduceToNat, DD, x_app, x_ga0, x_gas, x_gan, Int.cast_ofNat_Int, eq_self, Int.zero_lt_one, Bool.not_false, Bool.not_true, beq_self_eq_true, k0, k3, k5, k6, k7, k8, ci, c1, c2, c4, c5, hc, hg0, hg1, g0, g1]
          refine callK_pl poly_Part.call (q3) (pl2 (pld_PA _ _) (pld_RC hri)) ?_
          simp -implicitDefEqProofs only [go_sem, Nat.reduceAdd, Nat.reduceEqDiff, Nat.reduceLT, reduceIte, reduceCtorEq, Int.reduceLE, Int.reduceLT, Int.reduceEq, Int.reduceAdd, Int.reduceMul, Int.reduceSub, Nat.reduceMul, Nat.reduceSub, Nat.reducePow, Nat.reduceLeDiff, Int.reduceToNat, DD, x_app, x_ga0, x_gas, x_gan, Int.cast_ofNat_Int, eq_self, Int.zero_lt_one, Bool.not_false, Bool.not_true, beq_self_eq_true, k0, k3, k5, k6, k7, k8, ci, c1, c2, c4, c5, hc, hg0, hg1, g0, g1]
          refine callK_pl annulusref8_Zero.call (q2) (pl1 (pld_CI _)) ?_
          simp -implicitDefEqProofs only [go_sem, Nat.reduceAdd, Nat.reduceEqDiff, Nat.reduceLT, reduceIte, reduceCtorEq, Int.reduceLE, Int.reduceLT, Int.reduceEq, Int.reduceAdd, Int.reduceMul, Int.reduceSub, Nat.reduceMul, Nat.reduceSub, Nat.reducePow, Nat.reduceLeDiff, Int.reduceToNat, DD, x_app, x_ga0, x_gas, x_gan, Int.cast_ofNat_Int, eq_self, Int.zero_lt_one, Bool.not_false, Bool.not_true, beq_self_eq_true, k0, k3, k5, k6, k7, k8, ci, c1, c2, c4, c5, hc, hg0, hg1, g0, g1]
          refine callK_pl annulusref8_Cplx.call (q4) (pl1 (pld_raw _)) ?_
          simp -implicitDefEqProofs only [go_sem, Nat.reduceAdd, Nat.reduceEqDiff, Nat.reduceLT, reduceIte, reduceCtorEq, Int.reduceLE, Int.reduceLT, Int.reduceEq, Int.reduceAdd, Int.reduceMul, Int.reduceSub, Nat.reduceMul, Nat.reduceSub, Nat.reducePow, Nat.reduceLeDiff, Int.reduceToNat, DD, x_app, x_ga0, x_gas, x_gan, Int.cast_ofNat_Int, eq_self, Int.zero_lt_one, Bool.not_false, Bool.not_true, beq_self_eq_true, k0, k3, k5, k6, k7, k8, ci, c1, c2, c4, c5, hc, hg0, hg1, g0, g1]
          refine callK_pl annulusref8_Cplx.call (q5) (pl1 (pld_RC hri)) ?_
          simp -implicitDefEqProofs only [go_sem, Nat.reduceAdd, Nat.reduceEqDiff, Nat.reduceLT, reduceIte, reduceCtorEq, Int.reduceLE, Int.reduceLT, Int.reduceEq, Int.reduceAdd, Int.reduceMul, Int.reduceSub, Nat.reduceMul, Nat.reduceSub, Nat.reducePow, Nat.reduceLeDiff, Int.reduceToNat, DD, x_app, x_ga0, x_gas, x_gan, Int.cast_ofNat_Int, eq_self, Int.zero_lt_one, Bool.not_false, Bool.not_true, beq_self_eq_true, k0, k3, k5, k6, k7, k8, ci, c1, c2, c4, c5, hc, hg0, hg1, g0, g1]
          refine callK_pl annulusref8_Sub.call (q6) (pl2 (pld_CI _) (pld_CI _)) ?_
          simp -implicitDefEqProofs only [go_sem, Nat.reduceAdd, Nat.reduceEqDiff, Nat.reduceLT, reduceIte, reduceCtorEq, Int.reduceLE, Int.reduceLT, Int.reduceEq, Int.reduceAdd, Int.reduceMul, Int.reduceSub, Nat.reduceMul, Nat.reduceSub, Nat.reducePow, Nat.reduceLeDiff, Int.reduceToNat, DD, x_app, x_ga0, x_gas, x_gan, Int.cast_ofNat_Int, eq_self, Int.zero_lt_one, Bool.not_false, Bool.not_true, beq_self_eq_true, k0, k3, k5, k6, k7, k8, ci, c1, c2, c4, c5, hc, hg0, hg1, g0, g1]
          refine callK_pl annulusref8_Mul.call (q7) (pl2 (pld_CI _) (pld_CI _)) ?_
          simp -implicitDefEqProofs only [go_sem, Nat.reduceAdd, Nat.reduceEqDiff, Nat.reduceLT, reduceIte, reduceCtorEq, Int.reduceLE, Int.reduceLT, Int.reduceEq, Int.reduceAdd, Int.reduceMul, Int.reduceSub, Nat.reduceMul, Nat.reduceSub, Nat.reducePow, Nat.reduceLeDiff, Int.reduceToNat, DD, x_app, x_ga0, x_gas, x_gan, Int.cast_ofNat_Int, eq_self, Int.zero_lt_one, Bool.not_false, Bool.not_true, beq_self_eq_true, k0, k3, k5, k6, k7, k8, ci, c1, c2, c4, c5, hc, hg0, hg1, g0, g1]
          exact ⟨n - (i + 1), by omega, _, _, i + 1, rfl, rfl, by omega, by simp [x_look, k0], by simp [x_look, k3], by simp [x_look, k5], by simp [x_look, k6], by simp [x_look], by simp [x_look], by simp <;> omega, by rw [getD_set (by simp <;> omega), if_neg (by decide)]; exact g0 _, by rw [getD_set (by simp <;> omega), if_pos rfl]⟩
      · rw [decide_eq_false hz] at pt
        simp -implicitDefEqProofs only [go_sem, Nat.reduceAdd, Nat.reduceEqDiff, Nat.reduceLT, reduceIte, reduceCtorEq, Int.reduceLE, Int.reduceLT, Int.reduceEq, Int.reduceAdd, Int.reduceMul, Int.reduceSub, Nat.reduceMul, Nat.reduceSub, Nat.reducePow, Nat.reduceLeDiff, Int.reduceToNat, Tryd.f8, DD, x_app, x_ga0, x_gas, x_gan, Int.cast_ofNat_Int, eq_self, Int.zero_lt_one, Bool.not_false, Bool.not_true, beq_self_eq_true, g8]
        refine callK_pl annuluslaw11_known.call (kn) (pl0) ?_
        simp -implicitDefEqProofs only [go_sem, Nat.reduceAdd, Nat.reduceEqDiff, Nat.reduceLT, reduceIte, reduceCtorEq, Int.reduceLE, Int.reduceLT, Int.reduceEq, Int.reduceAdd, Int.reduceMul, Int.reduceSub, Nat.reduceMul, Nat.reduceSub, Nat.reducePow, Nat.reduceLeDiff, Int.reduceToNat, DD, x_app, x_ga0, x_gas, x_gan, Int.cast_ofNat_Int, eq_self, Int.zero_lt_one, Bool.not_false, Bool.not_true, beq_self_eq_true, g8]
        refine callK_pl annuluslaw11_few.call (fw) (pl1 (pld_q n F)) ?_
        simp -implicitDefEqProofs only [go_sem, Nat.reduceAdd, Nat.reduceEqDiff, Nat.reduceLT, reduceIte, reduceCtorEq, Int.reduceLE, Int.reduceLT, Int.reduceEq, Int.reduceAdd, Int.reduceMul, Int.reduceSub, Nat.reduceMul, Nat.reduceSub, Nat.reducePow, Nat.reduceLeDiff, Int.reduceToNat, DD, x_app, x_ga0, x_gas, x_gan, Int.cast_ofNat_Int, eq_self, Int.zero_lt_one, Bool.not_false, Bool.not_true, beq_self_eq_true, g8]
        refine callK_pl annuluslaw11_point.call (pt) (pl1 (pld_raw _)) ?_
        simp -implicitDefEqProofs only [go_sem, Nat.reduceAdd, Nat.reduceEqDiff, Nat.reduceLT, reduceIte, reduceCtorEq, Int.reduceLE, Int.reduceLT, Int.reduceEq, Int.reduceAdd, Int.reduceMul, Int.reduceSub, Nat.reduceMul, Nat.reduceSub, Nat.reducePow, Nat.reduceLeDiff, Int.reduceToNat, DD, x_app, x_ga0, x_gas, x_gan, Int.cast_ofNat_Int, eq_self, Int.zero_lt_one, Bool.not_false, Bool.not_true, beq_self_eq_true, g8]
    · have g8 : (8 : Int) < (n : Int) := by omega
      simp -implicitDefEqProofs only [go_sem, Nat.reduceAdd, Nat.reduceEqDiff, Nat.reduceLT, reduceIte, reduceCtorEq, Int.reduceLE, Int.reduceLT, Int.reduceEq, Int.reduceAdd, Int.reduceMul, Int.reduceSub, Nat.reduceMul, Nat.reduceSub, Nat.reducePow, Nat.reduceLeDiff, Int.reduceToNat, Tryd.f8, DD, x_app, x_ga0, x_gas, x_gan, Int.cast_ofNat_Int, eq_self, Int.zero_lt_one, Bool.not_false, Bool.not_true, beq_self_eq_true, g8]
      refine callK_pl annuluslaw11_known.call (kn) (pl0) ?_
      simp -implicitDefEqProofs only [go_sem, Nat.reduceAdd, Nat.reduceEqDiff, Nat.reduceLT, reduceIte, reduceCtorEq, Int.reduceLE, Int.reduceLT, Int.reduceEq, Int.reduceAdd, Int.reduceMul, Int.reduceSub, Nat.reduceMul, Nat.reduceSub, Nat.reducePow, Nat.reduceLeDiff, Int.reduceToNat, DD, x_app, x_ga0, x_gas, x_gan, Int.cast_ofNat_Int, eq_self, Int.zero_lt_one, Bool.not_false, Bool.not_true, beq_self_eq_true, g8]
      refine callK_pl annuluslaw11_few.call (fw) (pl1 (pld_q n F)) ?_
      simp -implicitDefEqProofs only [go_sem, Nat.reduceAdd, Nat.reduceEqDiff, Nat.reduceLT, reduceIte, reduceCtorEq, Int.reduceLE, Int.reduceLT, Int.reduceEq, Int.reduceAdd, Int.reduceMul, Int.reduceSub, Nat.reduceMul, Nat.reduceSub, Nat.reducePow, Nat.reduceLeDiff, Int.reduceToNat, DD, x_app, x_ga0, x_gas, x_gan, Int.cast_ofNat_Int, eq_self, Int.zero_lt_one, Bool.not_false, Bool.not_true, beq_self_eq_true, g8]
  · rw [decide_eq_false hf] at fw
    simp -implicitDefEqProofs only [go_sem, Nat.reduceAdd, Nat.reduceEqDiff, Nat.reduceLT, reduceIte, reduceCtorEq, Int.reduceLE, Int.reduceLT, Int.reduceEq, Int.reduceAdd, Int.reduceMul, Int.reduceSub, Nat.reduceMul, Nat.reduceSub, Nat.reducePow, Nat.reduceLeDiff, Int.reduceToNat, Tryd.f8, DD, x_app, x_ga0, x_gas, x_gan, Int.cast_ofNat_Int, eq_self, Int.zero_lt_one, Bool.not_false, Bool.not_true, beq_self_eq_true]
    refine callK_pl annuluslaw11_known.call (kn) (pl0) ?_
    simp -implicitDefEqProofs only [go_sem, Nat.reduceAdd, Nat.reduceEqDiff, Nat.reduceLT, reduceIte, reduceCtorEq, Int.reduceLE, Int.reduceLT, Int.reduceEq, Int.reduceAdd, Int.reduceMul, Int.reduceSub, Nat.reduceMul, Nat.reduceSub, Nat.reducePow, Nat.reduceLeDiff, Int.reduceToNat, DD, x_app, x_ga0, x_gas, x_gan, Int.cast_ofNat_Int, eq_self, Int.zero_lt_one, Bool.not_false, Bool.not_true, beq_self_eq_true]
    refine callK_pl annuluslaw11_few.call (fw) (pl1 (pld_q n F)) ?_
    simp -implicitDefEqProofs only [go_sem, Nat.reduceAdd, Nat.reduceEqDiff, Nat.reduceLT, reduceIte, reduceCtorEq, Int.reduceLE, Int.reduceLT, Int.reduceEq, Int.reduceAdd, Int.reduceMul, Int.reduceSub, Nat.reduceMul, Nat.reduceSub, Nat.reducePow, Nat.reduceLeDiff, Int.reduceToNat, DD, x_app, x_ga0, x_gas, x_gan, Int.cast_ofNat_Int, eq_self, Int.zero_lt_one, Bool.not_false, Bool.not_true, beq_self_eq_true]
end Go.Ab

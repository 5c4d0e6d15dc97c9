/- Contracts of this seat's functions (of each call: what it answers), walked over the abstract machine, and the laws of numbers that they want. Conditions: those that each theorem states. -/
import Derived.Test.YtikemgpeiecdcaaDoorE3
set_option linter.unusedVariables false
set_option maxRecDepth 20000
set_option linter.unusedSimpArgs false
set_option linter.unusedSectionVars false
namespace Go.Ab
open Go.Proofs
open Cx (zero one)
attribute [-go_sem] appF newsF
variable {a b : AV} {z w : Cx} {B C n m : Nat} {cs ds : List AV} {f g : Po}
theorem x_rawt {r : Raw} : (Raw.cells r).take 6 = r.cells := rfl
theorem x_rawl {r : Raw} : (Raw.cells r).length = 6 := rfl
theorem x_rawleaf {r : Raw} : (Raw.cells r).all leafA = true := rfl
attribute [go_sem] x_rawt x_rawl x_rawleaf
theorem pld_raw (r : Raw) : PlD (.agg r.cells) := pld_agg lf_raw
theorem i8_of {n : Int} (h : (Lit.int .i8 n).wf = true) : -128 ≤ n ∧ n ≤ 127 := by
  simp only [Lit.wf, Bool.and_eq_true, decide_eq_true_eq, IntKind.min, IntKind.max, IntKind.signed, IntKind.bits] at h
  simp at h
  omega
set_option maxRecDepth 100000 in
set_option maxHeartbeats 4000000 in
theorem polyDegrees_sat (F : Nat → Raw) (hF : ∀ i, (F i).ok) (hn : n ≤ 9223372036854775807) (G : Nat → Raw) (hG : ∀ i, (G i).ok) (hm : m ≤ 9223372036854775807) : Sat CT false 10 [.sl n (qcl n F), .sl m (qcl m G)] (Bo true) := by
  refine sat_of annuluslaw11_PolyDegrees.ok (by simp) ?_
  have DD := annuluslaw11_PolyDegrees.dr
  simp only [drP, drPx, drR, drS, bodyOf, Tryd.f10, Nat.reduceEqDiff, reduceIte, true_and, and_true] at DD
  have kn := known11_s
  have fw := few11_s F hn
  have fw' := few11_s G hm
  by_cases hf : (∀ i, i < n → (F i).sm) ∧ n ≤ 14
  · rw [decide_eq_true hf] at fw
    by_cases hf' : (∀ i, i < m → (G i).sm) ∧ m ≤ 14
    · rw [decide_eq_true hf'] at fw'
      have h := RP_q (fun i _ => hF i) hf.1 (by omega)
      have h' := RP_q (fun i _ => hG i) hf'.1 (by omega)
      have hn14 := hf.2
      have hm14 := hf'.2
      have hcs := isD_qcl n F
      have hds := isD_qcl m G
      generalize qpo n F = f at h
      generalize qcl n F = cs at *
      generalize qpo m G = g at h'
      generalize qcl m G = ds at *
      have q1 := pdeg_s h (by omega) hcs
      have q2 := pdeg_s h' (by omega) hds
      have q3 := pmul_s h h' (by omega) hcs hds (by omega)
      have q3' := pmul_s h' h (by omega) hds hcs (by omega)
      have bM := PB.conv h.pb h'.pb h.sp
      have bM' := PB.conv h'.pb h.pb h'.sp
      have sM := Sp.conv1 h.sp h'.sp
      have sM' := Sp.conv1 h'.sp h.sp
      have lM := dg_le (n + m) (conv f g)
      have lM' := dg_le (m + n) (conv g f)
      have q4 := pdeg_s (RP_P bM (dg_sp sM) (by omega)) (by omega) (isD_pcl _ _)
      rw [dg_self sM] at q4
      have q5 := padd_s h h' (by omega) (by omega) hcs hds
      have bA : PB (padd f g) 297 := h.pb.add h'.pb
      have sA := Sp.padd h.sp h'.sp
      have lA := dg_le (max n m) (padd f g)
      have q6 := pdeg_s (RP_P bA (dg_sp sA) (by omega)) (by omega) (isD_pcl _ _)
      rw [dg_self sA] at q6
      have hadd := dg_add h.sp h'.sp
      have q7 := pderiv_s h (by omega)
      have bD := h.pb.der h.sp (by omega)
      have sD := h.sp.der'
      have lD := dg_le (n - 1) (der f)
      have q8 := pdeg_s (RP_P bD (dg_sp sD) (by omega)) (by omega) (isD_pcl _ _)
      rw [dg_self sD, dg_der' h.sp] at q8
      rw [dg_der' h.sp] at q7
      have q9 := psame_y (RP_P bM (dg_sp sM) (by omega)) (RP_P bM' (dg_sp sM') (by omega)) (by omega) (by omega) (isD_pcl _ _) (isD_pcl _ _) ((conv_fun f g))
      have la := dg_le n f
      have lb := dg_le m g
      have hM0 : dg n f = 0 ∨ dg m g = 0 → dg (n + m) (conv f g) = 0 := dg_conv0 h.sp h'.sp
      have hM1 : dg n f ≠ 0 → dg m g ≠ 0 → dg (n + m) (conv f g) = dg n f + dg m g - 1 := dg_conv h.sp h'.sp
      generalize dg n f = a at *
      generalize dg m g = b at *
      generalize dg (max n m) (padd f g) = A at *
      generalize dg (n + m) (conv f g) = M at *
      generalize dg (m + n) (conv g f) = M' at *
      obtain ⟨hA1, hA2⟩ := hadd
      by_cases ha : a = 0
      · have hM := hM0 (.inl ha)
        have c1 : (a : Int) - 1 < 0 := by omega
        have c2 : (M : Int) - 1 = -1 := by omega
        have c3 : (A : Int) - 1 = max ((a : Int) - 1) ((b : Int) - 1) := by omega
        simp -implicitDefEqProofs only [go_sem, Nat.reduceAdd, Nat.reduceEqDiff, Nat.reduceLT, reduceIte, reduceCtorEq, Int.reduceLE, Int.reduceLT, Int.reduceEq, Int.reduceAdd, Int.reduceMul, Int.reduceSub, Nat.reduceMul, Nat.reduceSub, Nat.reducePow, Nat.reduceLeDiff, Int.reduceToNat, Tryd.f10, DD, x_app, x_ga0, x_gas, x_gan, Int.cast_ofNat_Int, eq_self, Int.zero_lt_one, Bool.not_false, Bool.not_true, beq_self_eq_true, c1, c2, c3]
        refine callK_pl annuluslaw11_known.call (kn) (pl0) ?_
        simp -implicitDefEqProofs only [go_sem, Nat.reduceAdd, Nat.reduceEqDiff, Nat.reduceLT, reduceIte, reduceCtorEq, Int.reduceLE, Int.reduceLT, Int.reduceEq, Int.reduceAdd, Int.reduceMul, Int.reduceSub, Nat.reduceMul, Nat.reduceSub, Nat.reducePow, Nat.reduceLeDiff, Int.reduceToNat, DD, x_app, x_ga0, x_gas, x_gan, Int.cast_ofNat_Int, eq_self, Int.zero_lt_one, Bool.not_false, Bool.not_true, beq_self_eq_true, c1, c2, c3]
        refine callK_pl annuluslaw11_few.call (fw) (pl1 (pld_sl hcs)) ?_
        simp -implicitDefEqProofs only [go_sem, Nat.reduceAdd, Nat.reduceEqDiff, Nat.reduceLT, reduceIte, reduceCtorEq, Int.reduceLE, Int.reduceLT, Int.reduceEq, Int.reduceAdd, Int.reduceMul, Int.reduceSub, Nat.reduceMul, Nat.reduceSub, Nat.reducePow, Nat.reduceLeDiff, Int.reduceToNat, DD, x_app, x_ga0, x_gas, x_gan, Int.cast_ofNat_Int, eq_self, Int.zero_lt_one, Bool.not_false, Bool.not_true, beq_self_eq_true, c1, c2, c3]
        refine callK_pl annuluslaw11_few.call (fw') (pl1 (pld_sl hds)) ?_
        simp -implicitDefEqProofs only [go_sem, Nat.reduceAdd, Nat.reduceEqDiff, Nat.reduceLT, reduceIte, reduceCtorEq, Int.reduceLE, Int.reduceLT, Int.reduceEq, Int.reduceAdd, Int.reduceMul, Int.reduceSub, Nat.reduceMul, Nat.reduceSub, Nat.reducePow, Nat.reduceLeDiff, Int.reduceToNat, DD, x_app, x_ga0, x_gas, x_gan, Int.cast_ofNat_Int, eq_self, Int.zero_lt_one, Bool.not_false, Bool.not_true, beq_self_eq_true, c1, c2, c3]
        refine callK_pl poly_Degree.call (q1) (pl1 (pld_sl hcs)) ?_
        simp -implicitDefEqProofs only [go_sem, Nat.reduceAdd, Nat.reduceEqDiff, Nat.reduceLT, reduceIte, reduceCtorEq, Int.reduceLE, Int.reduceLT, Int.reduceEq, Int.reduceAdd, Int.reduceMul, Int.reduceSub, Nat.reduceMul, Nat.reduceSub, Nat.reducePow, Nat.reduceLeDiff, Int.reduceToNat, DD, x_app, x_ga0, x_gas, x_gan, Int.cast_ofNat_Int, eq_self, Int.zero_lt_one, Bool.not_false, Bool.not_true, beq_self_eq_true, c1, c2, c3]
        refine callK_pl poly_Degree.call (q2) (pl1 (pld_sl hds)) ?_
        simp -implicitDefEqProofs only [go_sem, Nat.reduceAdd, Nat.reduceEqDiff, Nat.reduceLT, reduceIte, reduceCtorEq, Int.reduceLE, Int.reduceLT, Int.reduceEq, Int.reduceAdd, Int.reduceMul, Int.reduceSub, Nat.reduceMul, Nat.reduceSub, Nat.reducePow, Nat.reduceLeDiff, Int.reduceToNat, DD, x_app, x_ga0, x_gas, x_gan, Int.cast_ofNat_Int, eq_self, Int.zero_lt_one, Bool.not_false, Bool.not_true, beq_self_eq_true, c1, c2, c3]
        refine callK_pl poly_Mul.call (q3) (pl2 (pld_sl hcs) (pld_sl hds)) ?_
        simp -implicitDefEqProofs only [go_sem, Nat.reduceAdd, Nat.reduceEqDiff, Nat.reduceLT, reduceIte, reduceCtorEq, Int.reduceLE, Int.reduceLT, Int.reduceEq, Int.reduceAdd, Int.reduceMul, Int.reduceSub, Nat.reduceMul, Nat.reduceSub, Nat.reducePow, Nat.reduceLeDiff, Int.reduceToNat, DD, x_app, x_ga0, x_gas, x_gan, Int.cast_ofNat_Int, eq_self, Int.zero_lt_one, Bool.not_false, Bool.not_true, beq_self_eq_true, c1, c2, c3]
        refine callK_pl poly_Degree.call (q4) (pl1 (pld_PA _ _)) ?_
        simp -implicitDefEqProofs only [go_sem, Nat.reduceAdd, Nat.reduceEqDiff, Nat.reduceLT, reduceIte, reduceCtorEq, Int.reduceLE, Int.reduceLT, Int.reduceEq, Int.reduceAdd, Int.reduceMul, Int.reduceSub, Nat.reduceMul, Nat.reduceSub, Nat.reducePow, Nat.reduceLeDiff, Int.reduceToNat, DD, x_app, x_ga0, x_gas, x_gan, Int.cast_ofNat_Int, eq_self, Int.zero_lt_one, Bool.not_false, Bool.not_true, beq_self_eq_true, c1, c2, c3]
        refine callK_pl poly_Add.call (q5) (pl2 (pld_sl hcs) (pld_sl hds)) ?_
        simp -implicitDefEqProofs only [go_sem, Nat.reduceAdd, Nat.reduceEqDiff, Nat.reduceLT, reduceIte, reduceCtorEq, Int.reduceLE, Int.reduceLT, Int.reduceEq, Int.reduceAdd, Int.reduceMul, Int.reduceSub, Nat.reduceMul, Nat.reduceSub, Nat.reducePow, Nat.reduceLeDiff, Int.reduceToNat, DD, x_app, x_ga0, x_gas, x_gan, Int.cast_ofNat_Int, eq_self, Int.zero_lt_one, Bool.not_false, Bool.not_true, beq_self_eq_true, c1, c2, c3]
        refine callK_pl poly_Degree.call (q6) (pl1 (pld_PA _ _)) ?_
        simp -implicitDefEqProofs only [go_sem, Nat.reduceAdd, Nat.reduceEqDiff, Nat.reduceLT, reduceIte, reduceCtorEq, Int.reduceLE, Int.reduceLT, Int.reduceEq, Int.reduceAdd, Int.reduceMul, Int.reduceSub, Nat.reduceMul, Nat.reduceSub, Nat.reducePow, Nat.reduceLeDiff, Int.reduceToNat, DD, x_app, x_ga0, x_gas, x_gan, Int.cast_ofNat_Int, eq_self, Int.zero_lt_one, Bool.not_false, Bool.not_true, beq_self_eq_true, c1, c2, c3]
      · have c1 : ¬ (a : Int) - 1 < 0 := by omega
        by_cases hb0 : b = 0
        · have hM := hM0 (.inr hb0)
          have c4 : (b : Int) - 1 < 0 := by omega
          have c2 : (M : Int) - 1 = -1 := by omega
          have c3 : (A : Int) - 1 = max ((a : Int) - 1) ((b : Int) - 1) := by omega
          simp -implicitDefEqProofs only [go_sem, Nat.reduceAdd, Nat.reduceEqDiff, Nat.reduceLT, reduceIte, reduceCtorEq, Int.reduceLE, Int.reduceLT, Int.reduceEq, Int.reduceAdd, Int.reduceMul, Int.reduceSub, Nat.reduceMul, Nat.reduceSub, Nat.reducePow, Nat.reduceLeDiff, Int.reduceToNat, Tryd.f10, DD, x_app, x_ga0, x_gas, x_gan, Int.cast_ofNat_Int, eq_self, Int.zero_lt_one, Bool.not_false, Bool.not_true, beq_self_eq_true, c1, c4, c2, c3]
          refine callK_pl annuluslaw11_known.call (kn) (pl0) ?_
          simp -implicitDefEqProofs only [go_sem, Nat.reduceAdd, Nat.reduceEqDiff, Nat.reduceLT, reduceIte, reduceCtorEq, Int.reduceLE, Int.reduceLT, Int.reduceEq, Int.reduceAdd, Int.reduceMul, Int.reduceSub, Nat.reduceMul, Nat.reduceSub, Nat.reducePow, Nat.reduceLeDiff, Int.reduceToNat, DD, x_app, x_ga0, x_gas, x_gan, Int.cast_ofNat_Int, eq_self, Int.zero_lt_one, Bool.not_false, Bool.not_true, beq_self_eq_true, c1, c4, c2, c3]
          refine callK_pl annuluslaw11_few.call (fw) (pl1 (pld_sl hcs)) ?_
          simp -implicitDefEqProofs only [go_sem, Nat.reduceAdd, Nat.reduceEqDiff, Nat.reduceLT, reduceIte, reduceCtorEq, Int.reduceLE, Int.reduceLT, Int.reduceEq, Int.reduceAdd, Int.reduceMul, Int.reduceSub, Nat.reduceMul, Nat.reduceSub, Nat.reducePow, Nat.reduceLeDiff, Int.reduceToNat, DD, x_app, x_ga0, x_gas, x_gan, Int.cast_ofNat_Int, eq_self, Int.zero_lt_one, Bool.not_false, Bool.not_true, beq_self_eq_true, c1, c4, c2, c3]
          refine callK_pl annuluslaw11_few.call (fw') (pl1 (pld_sl hds)) ?_
          simp -implicitDefEqProofs only [go_sem, Nat.reduceAdd, Nat.reduceEqDiff, Nat.reduceLT, reduceIte, reduceCtorEq, Int.reduceLE, Int.reduceLT, Int.reduceEq, Int.reduceAdd, Int.reduceMul, Int.reduceSub, Nat.reduceMul, Nat.reduceSub, Nat.reducePow, Nat.reduceLeDiff, Int.reduceToNat, DD, x_app, x_ga0, x_gas, x_gan, Int.cast_ofNat_Int, eq_self, Int.zero_lt_one, Bool.not_false, Bool.not_true, beq_self_eq_true, c1, c4, c2, c3]
          refine callK_pl poly_Degree.call (q1) (pl1 (pld_sl hcs)) ?_
          simp -implicitDefEqProofs only [go_sem, Nat.reduceAdd, Nat.reduceEqDiff, Nat.reduceLT, reduceIte, reduceCtorEq, Int.reduceLE, Int.reduceLT, Int.reduceEq, Int.reduceAdd, Int.reduceMul, Int.reduceSub, Nat.reduceMul, Nat.reduceSub, Nat.reducePow, Nat.reduceLeDiff, Int.reduceToNat, DD, x_app, x_ga0, x_gas, x_gan, Int.cast_ofNat_Int, eq_self, Int.zero_lt_one, Bool.not_false, Bool.not_true, beq_self_eq_true, c1, c4, c2, c3]
          refine callK_pl poly_Degree.call (q2) (pl1 (pld_sl hds)) ?_
          simp -implicitDefEqProofs only [go_sem, Nat.reduceAdd, Nat.reduceEqDiff, Nat.reduceLT, reduceIte, reduceCtorEq, Int.reduceLE, Int.reduceLT, Int.reduceEq, Int.reduceAdd, Int.reduceMul, Int.reduceSub, Nat.reduceMul, Nat.reduceSub, Nat.reducePow, Nat.reduceLeDiff, Int.reduceToNat, DD, x_app, x_ga0, x_gas, x_gan, Int.cast_ofNat_Int, eq_self, Int.zero_lt_one, Bool.not_false, Bool.not_true, beq_self_eq_true, c1, c4, c2, c3]
          refine callK_pl poly_Mul.call (q3) (pl2 (pld_sl hcs) (pld_sl hds)) ?_
          simp -implicitDefEqProofs only [go_sem, Nat.reduceAdd, Nat.reduceEqDiff, Nat.reduceLT, reduceIte, reduceCtorEq, Int.reduceLE, Int.reduceLT, Int.reduceEq, Int.reduceAdd, Int.reduceMul, Int.reduceSub, Nat.reduceMul, Nat.reduceSub, Nat.reducePow, Nat.reduceLeDiff, Int.reduceToNat, DD, x_app, x_ga0, x_gas, x_gan, Int.cast_ofNat_Int, eq_self, Int.zero_lt_one, Bool.not_false, Bool.not_true, beq_self_eq_true, c1, c4, c2, c3]
          refine callK_pl poly_Degree.call (q4) (pl1 (pld_PA _ _)) ?_
          simp -implicitDefEqProofs only [go_sem, Nat.reduceAdd, Nat.reduceEqDiff, Nat.reduceLT, reduceIte, reduceCtorEq, Int.reduceLE, Int.reduceLT, Int.reduceEq, Int.reduceAdd, Int.reduceMul, Int.reduceSub, Nat.reduceMul, Nat.reduceSub, Nat.reducePow, Nat.reduceLeDiff, Int.reduceToNat, DD, x_app, x_ga0, x_gas, x_gan, Int.cast_ofNat_Int, eq_self, Int.zero_lt_one, Bool.not_false, Bool.not_true, beq_self_eq_true, c1, c4, c2, c3]
          refine callK_pl poly_Add.call (q5) (pl2 (pld_sl hcs) (pld_sl hds)) ?_
          simp -implicitDefEqProofs only [go_sem, Nat.reduceAdd, Nat.reduceEqDiff, Nat.reduceLT, reduceIte, reduceCtorEq, Int.reduceLE, Int.reduceLT, Int.reduceEq, Int.reduceAdd, Int.reduceMul, Int.reduceSub, Nat.reduceMul, Nat.reduceSub, Nat.reducePow, Nat.reduceLeDiff, Int.reduceToNat, DD, x_app, x_ga0, x_gas, x_gan, Int.cast_ofNat_Int, eq_self, Int.zero_lt_one, Bool.not_false, Bool.not_true, beq_self_eq_true, c1, c4, c2, c3]
          refine callK_pl poly_Degree.call (q6) (pl1 (pld_PA _ _)) ?_
          simp -implicitDefEqProofs only [go_sem, Nat.reduceAdd, Nat.reduceEqDiff, Nat.reduceLT, reduceIte, reduceCtorEq, Int.reduceLE, Int.reduceLT, Int.reduceEq, Int.reduceAdd, Int.reduceMul, Int.reduceSub, Nat.reduceMul, Nat.reduceSub, Nat.reducePow, Nat.reduceLeDiff, Int.reduceToNat, DD, x_app, x_ga0, x_gas, x_gan, Int.cast_ofNat_Int, eq_self, Int.zero_lt_one, Bool.not_false, Bool.not_true, beq_self_eq_true, c1, c4, c2, c3]
        · have hM := hM1 ha hb0
          have c4 : ¬ (b : Int) - 1 < 0 := by omega
          have c5 : IntKind.i64.wrap ((a : Int) - 1 + ((b : Int) - 1)) = (M : Int) - 1 := by rw [wrap_id (by omega)]; omega
          have c6 : (A : Int) - 1 ≤ max ((a : Int) - 1) ((b : Int) - 1) := by omega
          have c7 : IntKind.i64.wrap ((a : Int) - 1 - 1) = (a : Int) - 1 - 1 := wrap_id (by omega)
          have c8 : max ((a : Int) - 1 - 1) (-1) = ((a - 1 : Nat) : Int) - 1 := by omega
          by_cases hab : a = b
          · have c9 : (a : Int) - 1 = (b : Int) - 1 := by omega
            have c10 : decide ((a : Int) - 1 = (b : Int) - 1) = true := decide_eq_true c9
            simp -implicitDefEqProofs only [go_sem, Nat.reduceAdd, Nat.reduceEqDiff, Nat.reduceLT, reduceIte, reduceCtorEq, Int.reduceLE, Int.reduceLT, Int.reduceEq, Int.reduceAdd, Int.reduceMul, Int.reduceSub, Nat.reduceMul, Nat.reduceSub, Nat.reducePow, Nat.reduceLeDiff, Int.reduceToNat, Tryd.f10, DD, x_app, x_ga0, x_gas, x_gan, Int.cast_ofNat_Int, eq_self, Int.zero_lt_one, Bool.not_false, Bool.not_true, beq_self_eq_true, c1, c4, c5, c6, c7, c8, c10]
            refine callK_pl annuluslaw11_known.call (kn) (pl0) ?_
            simp -implicitDefEqProofs only [go_sem, Nat.reduceAdd, Nat.reduceEqDiff, Nat.reduceLT, reduceIte, reduceCtorEq, Int.reduceLE, Int.reduceLT, Int.reduceEq, Int.reduceAdd, Int.reduceMul, Int.reduceSub, Nat.reduceMul, Nat.reduceSub, Nat.reducePow, Nat.reduceLeDiff, Int.reduceToNat, DD, x_app, x_ga0, x_gas, x_gan, Int.cast_ofNat_Int, eq_self, Int.zero_lt_one, Bool.not_false, Bool.not_true, beq_self_eq_true, c1, c4, c5, c6, c7, c8, c10]
            refine callK_pl annuluslaw11_few.call (fw) (pl1 (pld_sl hcs)) ?_
            simp -implicitDefEqProofs only [go_sem, Nat.reduceAdd, Nat.reduceEqDiff, Nat.reduceLT, reduceIte, reduceCtorEq, Int.reduceLE, Int.reduceLT, Int.reduceEq, Int.reduceAdd, Int.reduceMul, Int.reduceSub, Nat.reduceMul, Nat.reduceSub, Nat.reducePow, Nat.reduceLeDiff, Int.reduceToNat, DD, x_app, x_ga0, x_gas, x_gan, Int.cast_ofNat_Int, eq_self, Int.zero_lt_one, Bool.not_false, Bool.not_true, beq_self_eq_true, c1, c4, c5, c6, c7, c8, c10]
            refine callK_pl annuluslaw11_few.call (fw') (pl1 (pld_sl hds)) ?_
            simp -implicitDefEqProofs only [go_sem, Nat.reduceAdd, Nat.reduceEqDiff, Nat.reduceLT, reduceIte, reduceCtorEq, Int.reduceLE, Int.reduceLT, Int.reduceEq, Int.reduceAdd, Int.reduceMul, Int.reduceSub, Nat.reduceMul, Nat.reduceSub, Nat.reducePow, Nat.reduceLeDiff, Int.reduceToNat, DD, x_app, x_ga0, x_gas, x_gan, Int.cast_ofNat_Int, eq_self, Int.zero_lt_one, Bool.not_false, Bool.not_true, beq_self_eq_true, c1, c4, c5, c6, c7, c8, c10]
            refine callK_pl poly_Degree.call (q1) (pl1 (pld_sl hcs)) ?_
            simp -implicitDefEqProofs only [go_sem, Nat.reduceAdd, Nat.reduceEqDiff, Nat.reduceLT, reduceIte, reduceCtorEq, Int.reduceLE, Int.reduceLT, Int.reduceEq, Int.reduceAdd, Int.reduceMul, Int.reduceSub, Nat.reduceMul, Nat.reduceSub, Nat.reducePow, Nat.reduceLeDiff, Int.reduceToNat, DD, x_app, x_ga0, x_gas, x_gan, Int.cast_ofNat_Int, eq_self, Int.zero_lt_one, Bool.not_false, Bool.not_true, beq_self_eq_true, c1, c4, c5, c6, c7, c8, c10]
            refine callK_pl poly_Degree.call (q2) (pl1 (pld_sl hds)) ?_
            simp -implicitDefEqProofs only [go_sem, Nat.reduceAdd, Nat.reduceEqDiff, Nat.reduceLT, reduceIte, reduceCtorEq, Int.reduceLE, Int.reduceLT, Int.reduceEq, Int.reduceAdd, Int.reduceMul, Int.reduceSub, Nat.reduceMul, Nat.reduceSub, Nat.reducePow, Nat.reduceLeDiff, Int.reduceToNat, DD, x_app, x_ga0, x_gas, x_gan, Int.cast_ofNat_Int, eq_self, Int.zero_lt_one, Bool.not_false, Bool.not_true, beq_self_eq_true, c1, c4, c5, c6, c7, c8, c10]
            refine callK_pl poly_Mul.call (q3) (pl2 (pld_sl hcs) (pld_sl hds)) ?_
            simp -implicitDefEqProofs only [go_sem, Nat.reduceAdd, Nat.reduceEqDiff, Nat.reduceLT, reduceIte, reduceCtorEq, Int.reduceLE, Int.reduceLT, Int.reduceEq, Int.reduceAdd, Int.reduceMul, Int.reduceSub, Nat.reduceMul, Nat.reduceSub, Nat.reducePow, Nat.reduceLeDiff, Int.reduceToNat, DD, x_app, x_ga0, x_gas, x_gan, Int.cast_ofNat_Int, eq_self, Int.zero_lt_one, Bool.not_false, Bool.not_true, beq_self_eq_true, c1, c4, c5, c6, c7, c8, c10]
            refine callK_pl poly_Degree.call (q4) (pl1 (pld_PA _ _)) ?_
            simp -implicitDefEqProofs only [go_sem, Nat.reduceAdd, Nat.reduceEqDiff, Nat.reduceLT, reduceIte, reduceCtorEq, Int.reduceLE, Int.reduceLT, Int.reduceEq, Int.reduceAdd, Int.reduceMul, Int.reduceSub, Nat.reduceMul, Nat.reduceSub, Nat.reducePow, Nat.reduceLeDiff, Int.reduceToNat, DD, x_app, x_ga0, x_gas, x_gan, Int.cast_ofNat_Int, eq_self, Int.zero_lt_one, Bool.not_false, Bool.not_true, beq_self_eq_true, c1, c4, c5, c6, c7, c8, c10]
            refine callK_pl poly_Add.call (q5) (pl2 (pld_sl hcs) (pld_sl hds)) ?_
            simp -implicitDefEqProofs only [go_sem, Nat.reduceAdd, Nat.reduceEqDiff, Nat.reduceLT, reduceIte, reduceCtorEq, Int.reduceLE, Int.reduceLT, Int.reduceEq, Int.reduceAdd, Int.reduceMul, Int.reduceSub, Nat.reduceMul, Nat.reduceSub, Nat.reducePow, Nat.reduceLeDiff, Int.reduceToNat, DD, x_app, x_ga0, x_gas, x_gan, Int.cast_ofNat_Int, eq_self, Int.zero_lt_one, Bool.not_false, Bool.not_true, beq_self_eq_true, c1, c4, c5, c6, c7, c8, c10]
            refine callK_pl poly_Degree.call (q6) (pl1 (pld_PA _ _)) ?_
            simp -implicitDefEqProofs only [go_sem, Nat.reduceAdd, Nat.reduceEqDiff, Nat.reduceLT, reduceIte, reduceCtorEq, Int.reduceLE, Int.reduceLT, Int.reduceEq, Int.reduceAdd, Int.reduceMul, Int.reduceSub, Nat.reduceMul, Nat.reduceSub, Nat.reducePow, Nat.reduceLeDiff, Int.reduceToNat, DD, x_app, x_ga0, x_gas, x_gan, Int.cast_ofNat_Int, eq_self, Int.zero_lt_one, Bool.not_false, Bool.not_true, beq_self_eq_true, c1, c4, c5, c6, c7, c8, c10]
            refine callK_pl poly_Deriv.call (q7) (pl1 (pld_sl hcs)) ?_
            simp -implicitDefEqProofs only [go_sem, Nat.reduceAdd, Nat.reduceEqDiff, Nat.reduceLT, reduceIte, reduceCtorEq, Int.reduceLE, Int.reduceLT, Int.reduceEq, Int.reduceAdd, Int.reduceMul, Int.reduceSub, Nat.reduceMul, Nat.reduceSub, Nat.reducePow, Nat.reduceLeDiff, Int.reduceToNat, DD, x_app, x_ga0, x_gas, x_gan, Int.cast_ofNat_Int, eq_self, Int.zero_lt_one, Bool.not_false, Bool.not_true, beq_self_eq_true, c1, c4, c5, c6, c7, c8, c10]
            refine callK_pl poly_Degree.call (q8) (pl1 (pld_PA _ _)) ?_
            simp -implicitDefEqProofs only [go_sem, Nat.reduceAdd, Nat.reduceEqDiff, Nat.reduceLT, reduceIte, reduceCtorEq, Int.reduceLE, Int.reduceLT, Int.reduceEq, Int.reduceAdd, Int.reduceMul, Int.reduceSub, Nat.reduceMul, Nat.reduceSub, Nat.reducePow, Nat.reduceLeDiff, Int.reduceToNat, DD, x_app, x_ga0, x_gas, x_gan, Int.cast_ofNat_Int, eq_self, Int.zero_lt_one, Bool.not_false, Bool.not_true, beq_self_eq_true, c1, c4, c5, c6, c7, c8, c10]
            refine callK_pl poly_Mul.call (q3) (pl2 (pld_sl hcs) (pld_sl hds)) ?_
            simp -implicitDefEqProofs only [go_sem, Nat.reduceAdd, Nat.reduceEqDiff, Nat.reduceLT, reduceIte, reduceCtorEq, Int.reduceLE, Int.reduceLT, Int.reduceEq, Int.reduceAdd, Int.reduceMul, Int.reduceSub, Nat.reduceMul, Nat.reduceSub, Nat.reducePow, Nat.reduceLeDiff, Int.reduceToNat, DD, x_app, x_ga0, x_gas, x_gan, Int.cast_ofNat_Int, eq_self, Int.zero_lt_one, Bool.not_false, Bool.not_true, beq_self_eq_true, c1, c4, c5, c6, c7, c8, c10]
            refine callK_pl poly_Mul.call (q3') (pl2 (pld_sl hds) (pld_sl hcs)) ?_
            simp -implicitDefEqProofs only [go_sem, Nat.reduceAdd, Nat.reduceEqDiff, Nat.reduceLT, reduceIte, reduceCtorEq, Int.reduceLE, Int.reduceLT, Int.reduceEq, Int.reduceAdd, Int.reduceMul, Int.reduceSub, Nat.reduceMul, Nat.reduceSub, Nat.reducePow, Nat.reduceLeDiff, Int.reduceToNat, DD, x_app, x_ga0, x_gas, x_gan, Int.cast_ofNat_Int, eq_self, Int.zero_lt_one, Bool.not_false, Bool.not_true, beq_self_eq_true, c1, c4, c5, c6, c7, c8, c10]
            refine callK_pl poly_Same.call (q9) (pl2 (pld_PA _ _) (pld_PA _ _)) ?_
            simp -implicitDefEqProofs only [go_sem, Nat.reduceAdd, Nat.reduceEqDiff, Nat.reduceLT, reduceIte, reduceCtorEq, Int.reduceLE, Int.reduceLT, Int.reduceEq, Int.reduceAdd, Int.reduceMul, Int.reduceSub, Nat.reduceMul, Nat.reduceSub, Nat.reducePow, Nat.reduceLeDiff, Int.reduceToNat, DD, x_app, x_ga0, x_gas, x_gan, Int.cast_ofNat_Int, eq_self, Int.zero_lt_one, Bool.not_false, Bool.not_true, beq_self_eq_true, c1, c4, c5, c6, c7, c8, c10]
          · have c9 : ¬ (a : Int) - 1 = (b : Int) - 1 := by omega
            have c10 : (A : Int) - 1 = max ((a : Int) - 1) ((b : Int) - 1) := by have := hA2 hab; omega
            simp -implicitDefEqProofs only [go_sem, Nat.reduceAdd, Nat.reduceEqDiff, Nat.reduceLT, reduceIte, reduceCtorEq, Int.reduceLE, Int.reduceLT, Int.reduceEq, Int.reduceAdd, Int.reduceMul, Int.reduceSub, Nat.reduceMul, Nat.reduceSub, Nat.reducePow, Nat.reduceLeDiff, Int.reduceToNat, Tryd.f10, DD, x_app, x_ga0, x_gas, x_gan, Int.cast_ofNat_Int, eq_self, Int.zero_lt_one, Bool.not_false, Bool.not_true, beq_self_eq_true, c1, c4, c5, c6, c7, c8, c9, c10]
            refine callK_pl annuluslaw11_known.call (kn) (pl0) ?_
            simp -implicitDefEqProofs only [go_sem, Nat.reduceAdd, Nat.reduceEqDiff, Nat.reduceLT, reduceIte, reduceCtorEq, Int.reduceLE, Int.reduceLT, Int.reduceEq, Int.reduceAdd, Int.reduceMul, Int.reduceSub, Nat.reduceMul, Nat.reduceSub, Nat.reducePow, Nat.reduceLeDiff, Int.reduceToNat, DD, x_app, x_ga0, x_gas, x_gan, Int.cast_ofNat_Int, eq_self, Int.zero_lt_one, Bool.not_false, Bool.not_true, beq_self_eq_true, c1, c4, c5, c6, c7, c8, c9, c10]
            refine callK_pl annuluslaw11_few.call (fw) (pl1 (pld_sl hcs)) ?_
            simp -implicitDefEqProofs only [go_sem, Nat.reduceAdd, Nat.reduceEqDiff, Nat.reduceLT, reduceIte, reduceCtorEq, Int.reduceLE, Int.reduceLT, Int.reduceEq, Int.reduceAdd, Int.reduceMul, Int.reduceSub, Nat.reduceMul, Nat.reduceSub, Nat.reducePow, Nat.reduceLeDiff, Int.reduceToNat, DD, x_app, x_ga0, x_gas, x_gan, Int.cast_ofNat_Int, eq_self, Int.zero_lt_one, Bool.not_false, Bool.not_true, beq_self_eq_true, c1, c4, c5, c6, c7, c8, c9, c10]
            refine callK_pl annuluslaw11_few.call (fw') (pl1 (pld_sl hds)) ?_
            simp -implicitDefEqProofs only [go_sem, Nat.reduceAdd, Nat.reduceEqDiff, Nat.reduceLT, reduceIte, reduceCtorEq, Int.reduceLE, Int.reduceLT, Int.reduceEq, Int.reduceAdd, Int.reduceMul, Int.reduceSub, Nat.reduceMul, Nat.reduceSub, Nat.reducePow, Nat.reduceLeDiff, Int.reduceToNat, DD, x_app, x_ga0, x_gas, x_gan, Int.cast_ofNat_Int, eq_self, Int.zero_lt_one, Bool.not_false, Bool.not_true, beq_self_eq_true, c1, c4, c5, c6, c7, c8, c9, c10]
            refine callK_pl poly_Degree.call (q1) (pl1 (pld_sl hcs)) ?_
            simp -implicitDefEqProofs only [go_sem, Nat.reduceAdd, Nat.reduceEqDiff, Nat.reduceLT, reduceIte, reduceCtorEq, Int.reduceLE, Int.reduceLT, Int.reduceEq, Int.reduceAdd, Int.reduceMul, Int.reduceSub, Nat.reduceMul, Nat.reduceSub, Nat.reducePow, Nat.reduceLeDiff, Int.reduceToNat, DD, x_app, x_ga0, x_gas, x_gan, Int.cast_ofNat_Int, eq_self, Int.zero_lt_one, Bool.not_false, Bool.not_true, beq_self_eq_true, c1, c4, c5, c6, c7, c8, c9, c10]
            refine callK_pl poly_Degree.call (q2) (pl1 (pld_sl hds)) ?_
            simp -implicitDefEqProofs only [go_sem, Nat.reduceAdd, Nat.reduceEqDiff, Nat.reduceLT, reduceIte, reduceCtorEq, Int.reduceLE, Int.reduceLT, Int.reduceEq, Int.reduceAdd, Int.reduceMul, Int.reduceSub, Nat.reduceMul, Nat.reduceSub, Nat.reducePow, Nat.reduceLeDiff, Int.reduceToNat, DD, x_app, x_ga0, x_gas, x_gan, Int.cast_ofNat_Int, eq_self, Int.zero_lt_one, Bool.not_false, Bool.not_true, beq_self_eq_true, c1, c4, c5, c6, c7, c8, c9, c10]
            refine callK_pl poly_Mul.call (q3) (pl2 (pld_sl hcs) (pld_sl hds)) ?_
            simp -implicitDefEqProofs only [go_sem, Nat.reduceAdd, Nat.reduceEqDiff, Nat.reduceLT, reduceIte, reduceCtorEq, Int.reduceLE, Int.reduceLT, Int.reduceEq, Int.reduceAdd, Int.reduceMul, Int.reduceSub, Nat.reduceMul, Nat.reduceSub, Nat.reducePow, Nat.reduceLeDiff, Int.reduceToNat, DD, x_app, x_ga0, x_gas, x_gan, Int.cast_ofNat_Int, eq_self, Int.zero_lt_one, Bool.not_false, Bool.not_true, beq_self_eq_true, c1, c4, c5, c6, c7, c8, c9, c10]
            refine callK_pl poly_Degree.call (q4) (pl1 (pld_PA _ _)) ?_
            simp -implicitDefEqProofs only [go_sem, Nat.reduceAdd, Nat.reduceEqDiff, Nat.reduceLT, reduceIte, reduceCtorEq, Int.reduceLE, Int.reduceLT, Int.reduceEq, Int.reduceAdd, Int.reduceMul, Int.reduceSub, Nat.reduceMul, Nat.reduceSub, Nat.reducePow, Nat.reduceLeDiff, Int.reduceToNat, DD, x_app, x_ga0, x_gas, x_gan, Int.cast_ofNat_Int, eq_self, Int.zero_lt_one, Bool.not_false, Bool.not_true, beq_self_eq_true, c1, c4, c5, c6, c7, c8, c9, c10]
            refine callK_pl poly_Add.call (q5) (pl2 (pld_sl hcs) (pld_sl hds)) ?_
            simp -implicitDefEqProofs only [go_sem, Nat.reduceAdd, Nat.reduceEqDiff, Nat.reduceLT, reduceIte, reduceCtorEq, Int.reduceLE, Int.reduceLT, Int.reduceEq, Int.reduceAdd, Int.reduceMul, Int.reduceSub, Nat.reduceMul, Nat.reduceSub, Nat.reducePow, Nat.reduceLeDiff, Int.reduceToNat, DD, x_app, x_ga0, x_gas, x_gan, Int.cast_ofNat_Int, eq_self, Int.zero_lt_one, Bool.not_false, Bool.not_true, beq_self_eq_true, c1, c4, c5, c6, c7, c8, c9, c10]
            refine callK_pl poly_Degree.call (q6) (pl1 (pld_PA _ _)) ?_
            simp -implicitDefEqProofs only [go_sem, Nat.reduceAdd, Nat.reduceEqDiff, Nat.reduceLT, reduceIte, reduceCtorEq, Int.reduceLE, Int.reduceLT, Int.reduceEq, Int.reduceAdd, Int.reduceMul, Int.reduceSub, Nat.reduceMul, Nat.reduceSub, Nat.reducePow, Nat.reduceLeDiff, Int.reduceToNat, DD, x_app, x_ga0, x_gas, x_gan, Int.cast_ofNat_Int, eq_self, Int.zero_lt_one, Bool.not_false, Bool.not_true, beq_self_eq_true, c1, c4, c5, c6, c7, c8, c9, c10]
            refine callK_pl poly_Deriv.call (q7) (pl1 (pld_sl hcs)) ?_
            simp -implicitDefEqProofs only [go_sem, Nat.reduceAdd, Nat.reduceEqDiff, Nat.reduceLT, reduceIte, reduceCtorEq, Int.reduceLE, Int.reduceLT, Int.reduceEq, Int.reduceAdd, Int.reduceMul, Int.reduceSub, Nat.reduceMul, Nat.reduceSub, Nat.reducePow, Nat.reduceLeDiff, Int.reduceToNat, DD, x_app, x_ga0, x_gas, x_gan, Int.cast_ofNat_Int, eq_self, Int.zero_lt_one, Bool.not_false, Bool.not_true, beq_self_eq_true, c1, c4, c5, c6, c7, c8, c9, c10]
            refine callK_pl poly_Degree.call (q8) (pl1 (pld_PA _ _)) ?_
            simp -implicitDefEqProofs only [go_sem, Nat.reduceAdd, Nat.reduceEqDiff, Nat.reduceLT, reduceIte, reduceCtorEq, Int.reduceLE, Int.reduceLT, Int.reduceEq, Int.reduceAdd, Int.reduceMul, Int.reduceSub, Nat.reduceMul, Nat.reduceSub, Nat.reducePow, Nat.reduceLeDiff, Int.reduceToNat, DD, x_app, x_ga0, x_gas, x_gan, Int.cast_ofNat_Int, eq_self, Int.zero_lt_one, Bool.not_false, Bool.not_true, beq_self_eq_true, c1, c4, c5, c6, c7, c8, c9, c10]
            refine callK_pl poly_Mul.call (q3) (pl2 (pld_sl hcs) (pld_sl hds)) ?_
            simp -implicitDefEqProofs only [go_sem, Nat.reduceAdd, Nat.reduceEqDiff, Nat.reduceLT, reduceIte, reduceCtorEq, Int.reduceLE, Int.reduceLT, Int.reduceEq, Int.reduceAdd, Int.reduceMul, Int.reduceSub, Nat.reduceMul, Nat.reduceSub, Nat.reducePow, Nat.reduceLeDiff, Int.reduceToNat, DD, x_app, x_ga0, x_gas, x_gan, Int.cast_ofNat_Int, eq_self, Int.zero_lt_one, Bool.not_false, Bool.not_true, beq_self_eq_true, c1, c4, c5, c6, c7, c8, c9, c10]
            refine callK_pl poly_Mul.call (q3') (pl2 (pld_sl hds) (pld_sl hcs)) ?_
            simp -implicitDefEqProofs only [go_sem, Nat.reduceAdd, Nat.reduceEqDiff, Nat.reduceLT, reduceIte, reduceCtorEq, Int.reduceLE, Int.reduceLT, Int.reduceEq, Int.reduceAdd, Int.reduceMul, Int.reduceSub, Nat.reduceMul, Nat.reduceSub, Nat.reducePow, Nat.reduceLeDiff, Int.reduceToNat, DD, x_app, x_ga0, x_gas, x_gan, Int.cast_ofNat_Int, eq_self, Int.zero_lt_one, Bool.not_false, Bool.not_true, beq_self_eq_true, c1, c4, c5, c6, c7, c8, c9, c10]
            refine callK_pl poly_Same.call (q9) (pl2 (pld_PA _ _) (pld_PA _ _)) ?_
            simp -implicitDefEqProofs only [go_sem, Nat.reduceAdd, Nat.reduceEqDiff, Nat.reduceLT, reduceIte, reduceCtorEq, Int.reduceLE, Int.reduceLT, Int.reduceEq, Int.reduceAdd, Int.reduceMul, Int.reduceSub, Nat.reduceMul, Nat.reduceSub, Nat.reducePow, Nat.reduceLeDiff, Int.reduceToNat, DD, x_app, x_ga0, x_gas, x_gan, Int.cast_ofNat_Int, eq_self, Int.zero_lt_one, Bool.not_false, Bool.not_true, beq_self_eq_true, c1, c4, c5, c6, c7, c8, c9, c10]
    · rw [decide_eq_false hf'] at fw'
      simp -implicitDefEqProofs only [go_sem, Nat.reduceAdd, Nat.reduceEqDiff, Nat.reduceLT, reduceIte, reduceCtorEq, Int.reduceLE, Int.reduceLT, Int.reduceEq, Int.reduceAdd, Int.reduceMul, Int.reduceSub, Nat.reduceMul, Nat.reduceSub, Nat.reducePow, Nat.reduceLeDiff, Int.reduceToNat, Tryd.f10, DD, x_app, x_ga0, x_gas, x_gan, Int.cast_ofNat_Int, eq_self, Int.zero_lt_one, Bool.not_false, Bool.not_true, beq_self_eq_true]
      refine callK_pl annuluslaw11_known.call (kn) (pl0) ?_
      simp -implicitDefEqProofs only [go_sem, Nat.reduceAdd, Nat.reduceEqDiff, Nat.reduceLT, reduceIte, reduceCtorEq, Int.reduceLE, Int.reduceLT, Int.reduceEq, Int.reduceAdd, Int.reduceMul, Int.reduceSub, Nat.reduceMul, Nat.reduceSub, Nat.reducePow, Nat.reduceLeDiff, Int.reduceToNat, DD, x_app, x_ga0, x_gas, x_gan, Int.cast_ofNat_Int, eq_self, Int.zero_lt_one, Bool.not_false, Bool.not_true, beq_self_eq_true]
      refine callK_pl annuluslaw11_few.call (fw) (pl1 (pld_q n F)) ?_
      simp -implicitDefEqProofs only [go_sem, Nat.reduceAdd, Nat.reduceEqDiff, Nat.reduceLT, reduceIte, reduceCtorEq, Int.reduceLE, Int.reduceLT, Int.reduceEq, Int.reduceAdd, Int.reduceMul, Int.reduceSub, Nat.reduceMul, Nat.reduceSub, Nat.reducePow, Nat.reduceLeDiff, Int.reduceToNat, DD, x_app, x_ga0, x_gas, x_gan, Int.cast_ofNat_Int, eq_self, Int.zero_lt_one, Bool.not_false, Bool.not_true, beq_self_eq_true]
      refine callK_pl annuluslaw11_few.call (fw') (pl1 (pld_q m G)) ?_
      simp -implicitDefEqProofs only [go_sem, Nat.reduceAdd, Nat.reduceEqDiff, Nat.reduceLT, reduceIte, reduceCtorEq, Int.reduceLE, Int.reduceLT, Int.reduceEq, Int.reduceAdd, Int.reduceMul, Int.reduceSub, Nat.reduceMul, Nat.reduceSub, Nat.reducePow, Nat.reduceLeDiff, Int.reduceToNat, DD, x_app, x_ga0, x_gas, x_gan, Int.cast_ofNat_Int, eq_self, Int.zero_lt_one, Bool.not_false, Bool.not_true, beq_self_eq_true]
  · rw [decide_eq_false hf] at fw
    simp -implicitDefEqProofs only [go_sem, Nat.reduceAdd, Nat.reduceEqDiff, Nat.reduceLT, reduceIte, reduceCtorEq, Int.reduceLE, Int.reduceLT, Int.reduceEq, Int.reduceAdd, Int.reduceMul, Int.reduceSub, Nat.reduceMul, Nat.reduceSub, Nat.reducePow, Nat.reduceLeDiff, Int.reduceToNat, Tryd.f10, DD, x_app, x_ga0, x_gas, x_gan, Int.cast_ofNat_Int, eq_self, Int.zero_lt_one, Bool.not_false, Bool.not_true, beq_self_eq_true]
    refine callK_pl annuluslaw11_known.call (kn) (pl0) ?_
    simp -implicitDefEqProofs only [go_sem, Nat.reduceAdd, Nat.reduceEqDiff, Nat.reduceLT, reduceIte, reduceCtorEq, Int.reduceLE, Int.reduceLT, Int.reduceEq, Int.reduceAdd, Int.reduceMul, Int.reduceSub, Nat.reduceMul, Nat.reduceSub, Nat.reducePow, Nat.reduceLeDiff, Int.reduceToNat, DD, x_app, x_ga0, x_gas, x_gan, Int.cast_ofNat_Int, eq_self, Int.zero_lt_one, Bool.not_false, Bool.not_true, beq_self_eq_true]
    refine callK_pl annuluslaw11_few.call (fw) (pl1 (pld_q n F)) ?_
    simp -implicitDefEqProofs only [go_sem, Nat.reduceAdd, Nat.reduceEqDiff, Nat.reduceLT, reduceIte, reduceCtorEq, Int.reduceLE, Int.reduceLT, Int.reduceEq, Int.reduceAdd, Int.reduceMul, Int.reduceSub, Nat.reduceMul, Nat.reduceSub, Nat.reducePow, Nat.reduceLeDiff, Int.reduceToNat, DD, x_app, x_ga0, x_gas, x_gan, Int.cast_ofNat_Int, eq_self, Int.zero_lt_one, Bool.not_false, Bool.not_true, beq_self_eq_true]
set_option maxRecDepth 100000 in
set_option maxHeartbeats 4000000 in
theorem polyShifts_sat (F : Nat → Raw) (hF : ∀ i, (F i).ok) (hn : n ≤ 9223372036854775807) (r : Raw) (hr : r.ok) : Sat CT false 9 [.sl n (qcl n F), .agg r.cells] (Bo true) := by
  refine sat_of annuluslaw11_PolyShifts.ok (by simp) ?_
  have DD := annuluslaw11_PolyShifts.dr
  simp only [drP, drPx, drR, drS, bodyOf, Tryd.f9, Nat.reduceEqDiff, reduceIte, true_and, and_true] at DD
  have kn := known11_s
  have fw := few11_s F hn
  have pt := point11_s r
  by_cases hf : (∀ i, i < n → (F i).sm) ∧ n ≤ 14
  · rw [decide_eq_true hf] at fw
    by_cases h6 : n ≤ 6
    · have g6 : ¬ (6 : Int) < (n : Int) := by omega
      by_cases hz : r.sm
      · rw [decide_eq_true hz] at pt
        have h := RP_q (fun i _ => hF i) hf.1 (by omega)
        have hcs := isD_qcl n F
        have hrc := r.rc hr hz
        have hlen := h.len
        have hrr := h.el
        generalize qpo n F = u at *
        generalize qcl n F = cs at *
        generalize r.z = z at hrc
        have hzb := hrc.cb
        have hcb : ∀ i, i < n → CB (u i) 296 := fun i hi => (hrr i hi).cb
        have hmb : ∀ i, i < n → CB (u i - z) 297 := fun i hi => (hcb i hi).sub hzb
        have f1 := pfrom_s u hlen hrr (by omega) (by decide) (by omega)
        have bF := (PB.frm hcb (by decide) (Nat.le_refl n)).mono (C := 1795) (by omega)
        have rF := RP_P bF (Sp.frm u n) (by omega)
        have k1 := rcplx_r hrc (by omega)
        have m1 : 2 * (n + 1) * (n + 1) ≤ 2 * 7 * 7 := Nat.mul_le_mul (Nat.mul_le_mul_left 2 (by omega)) (by omega)
        have s1 := pshift_s rF hrc (by omega) (isD_pcl _ _) (by omega)
        rw [dg_frm, shf_frm] at s1
        have f2 := pfrom_s (n := n) (cs := pcl n (fun i => u i - z)) (B := 297) (fun i => u i - z) (pcl_len _ _) (fun i hi => by rw [pcl_el _ hi]; exact RC_C (hmb i hi)) (by omega) (by decide) (by omega)
        have bM := (PB.frm hmb (by decide) (Nat.le_refl n)).mono (C := 1801) (by omega)
        have rM := RP_P bM (Sp.frm (fun i => u i - z) n) (by omega)
        have e1 := psame_y rM rM (by omega) (by omega) (isD_pcl _ _) (isD_pcl _ _) (rfl)
        have k2 := rneg8 hzb (by omega)
        have s2 := pshift_s rM (RC_C hzb.neg) (by omega) (isD_pcl _ _) (by omega)
        rw [dg_frm, ← shf_frm, shf_back (Sp.frm u n), shf_frm] at s2
        have e2 := psame_y rF rF (by omega) (by omega) (isD_pcl _ _) (isD_pcl _ _) (rfl)
        have d1 := pdeg_s rM (by omega) (isD_pcl _ _)
        have d2 := pdeg_s rF (by omega) (isD_pcl _ _)
        rw [dg_frm] at d1 d2
        simp -implicitDefEqProofs only [go_sem, Nat.reduceAdd, Nat.reduceEqDiff, Nat.reduceLT, reduceIte, reduceCtorEq, Int.reduceLE, Int.reduceLT, Int.reduceEq, Int.reduceAdd, Int.reduceMul, Int.reduceSub, Nat.reduceMul, Nat.reduceSub, Nat.reducePow, Nat.reduceLeDiff, Int.reduceToNat, Tryd.f9, DD, x_app, x_ga0, x_gas, x_gan, Int.cast_ofNat_Int, eq_self, Int.zero_lt_one, Bool.not_false, Bool.not_true, beq_self_eq_true, g6]
        refine callK_pl annuluslaw11_known.call (kn) (pl0) ?_
        simp -implicitDefEqProofs only [go_sem, Nat.reduceAdd, Nat.reduceEqDiff, Nat.reduceLT, reduceIte, reduceCtorEq, Int.reduceLE, Int.reduceLT, Int.reduceEq, Int.reduceAdd, Int.reduceMul, Int.reduceSub, Nat.reduceMul, Nat.reduceSub, Nat.reducePow, Nat.reduceLeDiff, Int.reduceToNat, DD, x_app, x_ga0, x_gas, x_gan, Int.cast_ofNat_Int, eq_self, Int.zero_lt_one, Bool.not_false, Bool.not_true, beq_self_eq_true, g6]
        refine callK_pl annuluslaw11_few.call (fw) (pl1 (pld_sl hcs)) ?_
        simp -implicitDefEqProofs only [go_sem, Nat.reduceAdd, Nat.reduceEqDiff, Nat.reduceLT, reduceIte, reduceCtorEq, Int.reduceLE, Int.reduceLT, Int.reduceEq, Int.reduceAdd, Int.reduceMul, Int.reduceSub, Nat.reduceMul, Nat.reduceSub, Nat.reducePow, Nat.reduceLeDiff, Int.reduceToNat, DD, x_app, x_ga0, x_gas, x_gan, Int.cast_ofNat_Int, eq_self, Int.zero_lt_one, Bool.not_false, Bool.not_true, beq_self_eq_true, g6]
        refine callK_pl annuluslaw11_point.call (pt) (pl1 (pld_raw _)) ?_
        simp -implicitDefEqProofs only [go_sem, Nat.reduceAdd, Nat.reduceEqDiff, Nat.reduceLT, reduceIte, reduceCtorEq, Int.reduceLE, Int.reduceLT, Int.reduceEq, Int.reduceAdd, Int.reduceMul, Int.reduceSub, Nat.reduceMul, Nat.reduceSub, Nat.reducePow, Nat.reduceLeDiff, Int.reduceToNat, DD, x_app, x_ga0, x_gas, x_gan, Int.cast_ofNat_Int, eq_self, Int.zero_lt_one, Bool.not_false, Bool.not_true, beq_self_eq_true, g6]
        refine callK_pl poly_From.call (f1) (pl1 (pld_sl hcs)) ?_
        simp -implicitDefEqProofs only [go_sem, Nat.reduceAdd, Nat.reduceEqDiff, Nat.reduceLT, reduceIte, reduceCtorEq, Int.reduceLE, Int.reduceLT, Int.reduceEq, Int.reduceAdd, Int.reduceMul, Int.reduceSub, Nat.reduceMul, Nat.reduceSub, Nat.reducePow, Nat.reduceLeDiff, Int.reduceToNat, DD, x_app, x_ga0, x_gas, x_gan, Int.cast_ofNat_Int, eq_self, Int.zero_lt_one, Bool.not_false, Bool.not_true, beq_self_eq_true, g6]
        refine callK_pl annulusref8_Cplx.call (k1) (pl1 (pld_raw _)) ?_
        simp -implicitDefEqProofs only [go_sem, Nat.reduceAdd, Nat.reduceEqDiff, Nat.reduceLT, reduceIte, reduceCtorEq, Int.reduceLE, Int.reduceLT, Int.reduceEq, Int.reduceAdd, Int.reduceMul, Int.reduceSub, Nat.reduceMul, Nat.reduceSub, Nat.reducePow, Nat.reduceLeDiff, Int.reduceToNat, DD, x_app, x_ga0, x_gas, x_gan, Int.cast_ofNat_Int, eq_self, Int.zero_lt_one, Bool.not_false, Bool.not_true, beq_self_eq_true, g6]
        refine loop_of aW0_mono (fun q σ => ∃ sl H i, σ = ⟨sl, H⟩ ∧ q = n - i ∧ i ≤ n ∧ look sl 0 = .sl n cs ∧ look sl 3 = .ptr 0 0 ∧ look sl 5 = PA (n + 1) (frm u n) ∧ look sl 7 = .ptr 1 0 ∧ look sl 8 = I64 (i : Nat) ∧ 1 < H.length ∧ H.getD 0 ⟨[], false, false⟩ = ⟨r.cells, true, true⟩ ∧ H.getD 1 ⟨[], false, false⟩ = ⟨CIc z, true, true⟩ ∧ ASl 6 (look sl 6) H (pcl i (fun i => u i - z)) i ∧ (∀ x, look sl 6 ≠ .own 6 0 0 x) ∧ ∀ x, look sl 6 ≠ .own 6 1 0 x) ?_ (n := n)
          ⟨_, _, 0, rfl, rfl, Nat.zero_le _, by simp [x_look], by simp [x_look], by simp [x_look], by simp [x_look], by simp [x_look], by simp, rfl, rfl, by simp [x_look, pcl0, ASl.nil], fun x e => by simp [x_look] at e, fun x e => by simp [x_look] at e⟩
        rintro q _ ⟨sl, H, i, rfl, rfl, hi, k0, k3, k5, k7, k8, hH, hg0, hg1, hA, hn0, hn1⟩
        by_cases hid : i = n
        · subst hid
          have g3 : RSl 6 (.own 6 1 0 1) H (CIc z) 1 := .inr ⟨1, true, rfl, hg1, hH, rfl⟩
          simp -implicitDefEqProofs only [go_sem, Nat.reduceAdd, Nat.reduceEqDiff, Nat.reduceLT, reduceIte, reduceCtorEq, Int.reduceLE, Int.reduceLT, Int.reduceEq, Int.reduceAdd, Int.reduceMul, Int.reduceSub, Nat.reduceMul, Nat.reduceSub, Nat.reducePow, Nat.reduceLeDiff, Int.reduceToNat, DD, x_app, x_ga0, x_gas, x_gan, Int.cast_ofNat_Int, eq_self, Int.zero_lt_one, Bool.not_false, Bool.not_true, beq_self_eq_true, k0, k3, k5, k7, k8, Int.lt_irrefl, hg0]
          refine callK_pl poly_Shift.call (s1) (pl2 (pld_PA _ _) (pld_raw _)) ?_
          simp -implicitDefEqProofs only [go_sem, Nat.reduceAdd, Nat.reduceEqDiff, Nat.reduceLT, reduceIte, reduceCtorEq, Int.reduceLE, Int.reduceLT, Int.reduceEq, Int.reduceAdd, Int.reduceMul, Int.reduceSub, Nat.reduceMul, Nat.reduceSub, Nat.reducePow, Nat.reduceLeDiff, Int.reduceToNat, DD, x_app, x_ga0, x_gas, x_gan, Int.cast_ofNat_Int, eq_self, Int.zero_lt_one, Bool.not_false, Bool.not_true, beq_self_eq_true, k0, k3, k5, k7, k8]
          refine callK_ar poly_From.call (f2) (.cons (.row hA.rsl (snap0_pcl _ _) (isD_pcl _ _)) .nil) rfl ?_
          intro H' hkp
          have g3 := hkp.2 _ _ _ _ g3
          obtain ⟨w3, g3⟩ : ∃ wr, H'.getD 1 ⟨[], false, false⟩ = ⟨CIc z, true, wr⟩ := by
            rcases g3 with ⟨e, _⟩ | ⟨k, wr, e, g, _⟩
            · cases e
            · cases e; exact ⟨wr, g⟩
          simp -implicitDefEqProofs only [go_sem, Nat.reduceAdd, Nat.reduceEqDiff, Nat.reduceLT, reduceIte, reduceCtorEq, Int.reduceLE, Int.reduceLT, Int.reduceEq, Int.reduceAdd, Int.reduceMul, Int.reduceSub, Nat.reduceMul, Nat.reduceSub, Nat.reducePow, Nat.reduceLeDiff, Int.reduceToNat, DD, x_app, x_ga0, x_gas, x_gan, Int.cast_ofNat_Int, eq_self, Int.zero_lt_one, Bool.not_false, Bool.not_true, beq_self_eq_true, k0, k3, k5, k7, k8, g3]
          refine callK_pl poly_Same.call (e1) (pl2 (pld_PA _ _) (pld_PA _ _)) ?_
          simp -implicitDefEqProofs only [go_sem, Nat.reduceAdd, Nat.reduceEqDiff, Nat.reduceLT, reduceIte, reduceCtorEq, Int.reduceLE, Int.reduceLT, Int.reduceEq, Int.reduceAdd, Int.reduceMul, Int.reduceSub, Nat.reduceMul, Nat.reduceSub, Nat.reducePow, Nat.reduceLeDiff, Int.reduceToNat, DD, x_app, x_ga0, x_gas, x_gan, Int.cast_ofNat_Int, eq_self, Int.zero_lt_one, Bool.not_false, Bool.not_true, beq_self_eq_true, k0, k3, k5, k7, k8, g3]
          refine callK_pl annulusref8_Neg.call (k2) (pl1 (pld_CI _)) ?_
          simp -implicitDefEqProofs only [go_sem, Nat.reduceAdd, Nat.reduceEqDiff, Nat.reduceLT, reduceIte, reduceCtorEq, Int.reduceLE, Int.reduceLT, Int.reduceEq, Int.reduceAdd, Int.reduceMul, Int.reduceSub, Nat.reduceMul, Nat.reduceSub, Nat.reducePow, Nat.reduceLeDiff, Int.reduceToNat, DD, x_app, x_ga0, x_gas, x_gan, Int.cast_ofNat_Int, eq_self, Int.zero_lt_one, Bool.not_false, Bool.not_true, beq_self_eq_true, k0, k3, k5, k7, k8, g3]
          refine callK_pl poly_Shift.call (s2) (pl2 (pld_PA _ _) (pld_CI _)) ?_
          simp -implicitDefEqProofs only [go_sem, Nat.reduceAdd, Nat.reduceEqDiff, Nat.reduceLT, reduceIte, reduceCtorEq, Int.reduceLE, Int.reduceLT, Int.reduceEq, Int.reduceAdd, Int.reduceMul, Int.reduceSub, Nat.reduceMul, Nat.reduceSub, Nat.reducePow, Nat.reduceLeDiff, Int.reduceToNat, DD, x_app, x_ga0, x_gas, x_gan, Int.cast_ofNat_Int, eq_self, Int.zero_lt_one, Bool.not_false, Bool.not_true, beq_self_eq_true, k0, k3, k5, k7, k8, g3]
          refine callK_pl poly_Same.call (e2) (pl2 (pld_PA _ _) (pld_PA _ _)) ?_
          simp -implicitDefEqProofs only [go_sem, Nat.reduceAdd, Nat.reduceEqDiff, Nat.reduceLT, reduceIte, reduceCtorEq, Int.reduceLE, Int.reduceLT, Int.reduceEq, Int.reduceAdd, Int.reduceMul, Int.reduceSub, Nat.reduceMul, Nat.reduceSub, Nat.reducePow, Nat.reduceLeDiff, Int.reduceToNat, DD, x_app, x_ga0, x_gas, x_gan, Int.cast_ofNat_Int, eq_self, Int.zero_lt_one, Bool.not_false, Bool.not_true, beq_self_eq_true, k0, k3, k5, k7, k8, g3]
          refine callK_pl poly_Degree.call (d1) (pl1 (pld_PA _ _)) ?_
          simp -implicitDefEqProofs only [go_sem, Nat.reduceAdd, Nat.reduceEqDiff, Nat.reduceLT, reduceIte, reduceCtorEq, Int.reduceLE, Int.reduceLT, Int.reduceEq, Int.reduceAdd, Int.reduceMul, Int.reduceSub, Nat.reduceMul, Nat.reduceSub, Nat.reducePow, Nat.reduceLeDiff, Int.reduceToNat, DD, x_app, x_ga0, x_gas, x_gan, Int.cast_ofNat_Int, eq_self, Int.zero_lt_one, Bool.not_false, Bool.not_true, beq_self_eq_true, k0, k3, k5, k7, k8, g3]
          refine callK_pl poly_Degree.call (d2) (pl1 (pld_PA _ _)) ?_
          simp -implicitDefEqProofs only [go_sem, Nat.reduceAdd, Nat.reduceEqDiff, Nat.reduceLT, reduceIte, reduceCtorEq, Int.reduceLE, Int.reduceLT, Int.reduceEq, Int.reduceAdd, Int.reduceMul, Int.reduceSub, Nat.reduceMul, Nat.reduceSub, Nat.reducePow, Nat.reduceLeDiff, Int.reduceToNat, DD, x_app, x_ga0, x_gas, x_gan, Int.cast_ofNat_Int, eq_self, Int.zero_lt_one, Bool.not_false, Bool.not_true, beq_self_eq_true, k0, k3, k5, k7, k8, g3]
        · have c1 : (i : Int) < (n : Int) := by omega
          have ci : IntKind.i64.wrap ((i : Int) + 1) = ((i + 1 : Nat) : Int) := by rw [wrap_id (by omega)]; omega
          have c2 : (0 : Int) ≤ (i : Int) := by omega
          have c4 : i * 6 < cs.length := by omega
          have c5 : i * 6 + 6 ≤ cs.length := by omega
          have hri := hrr i (by omega)
          obtain ⟨s, l, e, t, kk, gg, hc, _⟩ := id hri
          rw [hc] at hri
          have hc : (cs.drop (i * 6)).take 6 = [Bo s, U32 l, I64 e, Bo t, U32 kk, I64 gg] := AV.agg.inj hc
          have q1 := rcplx_r hri (by omega)
          have q2 := rsub8 hri.cb hzb (by omega) (by omega)
          simp -implicitDefEqProofs only [go_sem, Nat.reduceAdd, Nat.reduceEqDiff, Nat.reduceLT, reduceIte, reduceCtorEq, Int.reduceLE, Int.reduceLT, Int.reduceEq, Int.reduceAdd, Int.reduceMul, Int.reduceSub, Nat.reduceMul, Nat.reduceSub, Nat.reducePow, Nat.reduceLeDiff, Int.reduceToNat, DD, x_app, x_ga0, x_gas, x_gan, Int.cast_ofNat_Int, eq_self, Int.zero_lt_one, Bool.not_false, Bool.not_true, beq_self_eq_true, k0, k3, k5, k7, k8, ci, c1, c2, c4, c5, hc, hg1]
          refine callK_pl annulusref8_Cplx.call (q1) (pl1 (pld_RC hri)) ?_
          simp -implicitDefEqProofs only [go_sem, Nat.reduceAdd, Nat.reduceEqDiff, Nat.reduceLT, reduceIte, reduceCtorEq, Int.reduceLE, Int.reduceLT, Int.reduceEq, Int.reduceAdd, Int.reduceMul, Int.reduceSub, Nat.reduceMul, Nat.reduceSub, Nat.reducePow, Nat.reduceLeDiff, Int.reduceToNat, DD, x_app, x_ga0, x_gas, x_gan, Int.cast_ofNat_Int, eq_self, Int.zero_lt_one, Bool.not_false, Bool.not_true, beq_self_eq_true, k0, k3, k5, k7, k8, ci, c1, c2, c4, c5, hc, hg1]
          refine callK_pl annulusref8_Sub.call (q2) (pl2 (pld_CI _) (pld_CI _)) ?_
          simp -implicitDefEqProofs only [go_sem, Nat.reduceAdd, Nat.reduceEqDiff, Nat.reduceLT, reduceIte, reduceCtorEq, Int.reduceLE, Int.reduceLT, Int.reduceEq, Int.reduceAdd, Int.reduceMul, Int.reduceSub, Nat.reduceMul, Nat.reduceSub, Nat.reducePow, Nat.reduceLeDiff, Int.reduceToNat, DD, x_app, x_ga0, x_gas, x_gan, Int.cast_ofNat_Int, eq_self, Int.zero_lt_one, Bool.not_false, Bool.not_true, beq_self_eq_true, k0, k3, k5, k7, k8, ci, c1, c2, c4, c5, hc, hg1]
          refine app_step (P := Tryd.prog) tk22 rfl tk37 tk22 rfl rfl (by decide) (n := i) (m := 1) (hA.ext _) (.inl ⟨rfl, x_hget⟩) rfl (by decide) rfl (Nat.le_trans (Nat.mul_le_mul_right _ (show i + 1 ≤ 1000001 by omega)) (by decide)) (by omega) ?_
          intro H' hg hl' hk'
          have hlen2 : H'.length = H.length + 2 := by rw [hl']; simp
          have h0' : H'.getD 0 ⟨[], false, false⟩ = ⟨r.cells, true, true⟩ := by rw [hk' 0 (by simp) (hn0 i), getD_hp (by omega)]; exact hg0
          have h1' : H'.getD 1 ⟨[], false, false⟩ = ⟨CIc z, true, true⟩ := by rw [hk' 1 (by simp; omega) (hn1 i), getD_hp hH]; exact hg1
          simp -implicitDefEqProofs only [go_sem, Nat.reduceAdd, Nat.reduceEqDiff, Nat.reduceLT, reduceIte, reduceCtorEq, Int.reduceLE, Int.reduceLT, Int.reduceEq, Int.reduceAdd, Int.reduceMul, Int.reduceSub, Nat.reduceMul, Nat.reduceSub, Nat.reducePow, Nat.reduceLeDiff, Int.reduceToNat, DD, x_app, x_ga0, x_gas, x_gan, Int.cast_ofNat_Int, eq_self, Int.zero_lt_one, Bool.not_false, Bool.not_true, beq_self_eq_true, k0, k3, k5, k7, k8, ci, c1, c2, c4, c5, hc, hg1]
          exact ⟨n - (i + 1), by omega, _, _, i + 1, rfl, rfl, by omega, by simp [x_look, k0], by simp [x_look, k3], by simp [x_look, k5], by simp [x_look, k7], by simp [x_look], by omega, h0', h1', by simp only [x_look, reduceIte, Nat.reduceEqDiff]; exact ASl.lastP (g := fun i => u i - z) hg hl', fun x e => by simp [x_look] at e, fun x e => by simp only [x_look, reduceIte, Nat.reduceEqDiff, AV.own.injEq] at e; have q := e.2.1; simp at q; omega⟩
      · rw [decide_eq_false hz] at pt
        simp -implicitDefEqProofs only [go_sem, Nat.reduceAdd, Nat.reduceEqDiff, Nat.reduceLT, reduceIte, reduceCtorEq, Int.reduceLE, Int.reduceLT, Int.reduceEq, Int.reduceAdd, Int.reduceMul, Int.reduceSub, Nat.reduceMul, Nat.reduceSub, Nat.reducePow, Nat.reduceLeDiff, Int.reduceToNat, Tryd.f9, DD, x_app, x_ga0, x_gas, x_gan, Int.cast_ofNat_Int, eq_self, Int.zero_lt_one, Bool.not_false, Bool.not_true, beq_self_eq_true, g6]
        refine callK_pl annuluslaw11_known.call (kn) (pl0) ?_
        simp -implicitDefEqProofs only [go_sem, Nat.reduceAdd, Nat.reduceEqDiff, Nat.reduceLT, reduceIte, reduceCtorEq, Int.reduceLE, Int.reduceLT, Int.reduceEq, Int.reduceAdd, Int.reduceMul, Int.reduceSub, Nat.reduceMul, Nat.reduceSub, Nat.reducePow, Nat.reduceLeDiff, Int.reduceToNat, DD, x_app, x_ga0, x_gas, x_gan, Int.cast_ofNat_Int, eq_self, Int.zero_lt_one, Bool.not_false, Bool.not_true, beq_self_eq_true, g6]
        refine callK_pl annuluslaw11_few.call (fw) (pl1 (pld_q n F)) ?_
        simp -implicitDefEqProofs only [go_sem, Nat.reduceAdd, Nat.reduceEqDiff, Nat.reduceLT, reduceIte, reduceCtorEq, Int.reduceLE, Int.reduceLT, Int.reduceEq, Int.reduceAdd, Int.reduceMul, Int.reduceSub, Nat.reduceMul, Nat.reduceSub, Nat.reducePow, Nat.reduceLeDiff, Int.reduceToNat, DD, x_app, x_ga0, x_gas, x_gan, Int.cast_ofNat_Int, eq_self, Int.zero_lt_one, Bool.not_false, Bool.not_true, beq_self_eq_true, g6]
        refine callK_pl annuluslaw11_point.call (pt) (pl1 (pld_raw _)) ?_
        simp -implicitDefEqProofs only [go_sem, Nat.reduceAdd, Nat.reduceEqDiff, Nat.reduceLT, reduceIte, reduceCtorEq, Int.reduceLE, Int.reduceLT, Int.reduceEq, Int.reduceAdd, Int.reduceMul, Int.reduceSub, Nat.reduceMul, Nat.reduceSub, Nat.reducePow, Nat.reduceLeDiff, Int.reduceToNat, DD, x_app, x_ga0, x_gas, x_gan, Int.cast_ofNat_Int, eq_self, Int.zero_lt_one, Bool.not_false, Bool.not_true, beq_self_eq_true, g6]
    · have g6 : (6 : Int) < (n : Int) := by omega
      simp -implicitDefEqProofs only [go_sem, Nat.reduceAdd, Nat.reduceEqDiff, Nat.reduceLT, reduceIte, reduceCtorEq, Int.reduceLE, Int.reduceLT, Int.reduceEq, Int.reduceAdd, Int.reduceMul, Int.reduceSub, Nat.reduceMul, Nat.reduceSub, Nat.reducePow, Nat.reduceLeDiff, Int.reduceToNat, Tryd.f9, DD, x_app, x_ga0, x_gas, x_gan, Int.cast_ofNat_Int, eq_self, Int.zero_lt_one, Bool.not_false, Bool.not_true, beq_self_eq_true, g6]
      refine callK_pl annuluslaw11_known.call (kn) (pl0) ?_
      simp -implicitDefEqProofs only [go_sem, Nat.reduceAdd, Nat.reduceEqDiff, Nat.reduceLT, reduceIte, reduceCtorEq, Int.reduceLE, Int.reduceLT, Int.reduceEq, Int.reduceAdd, Int.reduceMul, Int.reduceSub, Nat.reduceMul, Nat.reduceSub, Nat.reducePow, Nat.reduceLeDiff, Int.reduceToNat, DD, x_app, x_ga0, x_gas, x_gan, Int.cast_ofNat_Int, eq_self, Int.zero_lt_one, Bool.not_false, Bool.not_true, beq_self_eq_true, g6]
      refine callK_pl annuluslaw11_few.call (fw) (pl1 (pld_q n F)) ?_
      simp -implicitDefEqProofs only [go_sem, Nat.reduceAdd, Nat.reduceEqDiff, Nat.reduceLT, reduceIte, reduceCtorEq, Int.reduceLE, Int.reduceLT, Int.reduceEq, Int.reduceAdd, Int.reduceMul, Int.reduceSub, Nat.reduceMul, Nat.reduceSub, Nat.reducePow, Nat.reduceLeDiff, Int.reduceToNat, DD, x_app, x_ga0, x_gas, x_gan, Int.cast_ofNat_Int, eq_self, Int.zero_lt_one, Bool.not_false, Bool.not_true, beq_self_eq_true, g6]
  · rw [decide_eq_false hf] at fw
    simp -implicitDefEqProofs only [go_sem, Nat.reduceAdd, Nat.reduceEqDiff, Nat.reduceLT, reduceIte, reduceCtorEq, Int.reduceLE, Int.reduceLT, Int.reduceEq, Int.reduceAdd, Int.reduceMul, Int.reduceSub, Nat.reduceMul, Nat.reduceSub, Nat.reducePow, Nat.reduceLeDiff, Int.reduceToNat, Tryd.f9, DD, x_app, x_ga0, x_gas, x_gan, Int.cast_ofNat_Int, eq_self, Int.zero_lt_one, Bool.not_false, Bool.not_true, beq_self_eq_true]
    refine callK_pl annuluslaw11_known.call (kn) (pl0) ?_
    simp -implicitDefEqProofs only [go_sem, Nat.reduceAdd, Nat.reduceEqDiff, Nat.reduceLT, reduceIte, reduceCtorEq, Int.reduceLE, Int.reduceLT, Int.reduceEq, Int.reduceAdd, Int.reduceMul, Int.reduceSub, Nat.reduceMul, Nat.reduceSub, Nat.reducePow, Nat.reduceLeDiff, Int.reduceToNat, DD, x_app, x_ga0, x_gas, x_gan, Int.cast_ofNat_Int, eq_self, Int.zero_lt_one, Bool.not_false, Bool.not_true, beq_self_eq_true]
    refine callK_pl annuluslaw11_few.call (fw) (pl1 (pld_q n F)) ?_
    simp -implicitDefEqProofs only [go_sem, Nat.reduceAdd, Nat.reduceEqDiff, Nat.reduceLT, reduceIte, reduceCtorEq, Int.reduceLE, Int.reduceLT, Int.reduceEq, Int.reduceAdd, Int.reduceMul, Int.reduceSub, Nat.reduceMul, Nat.reduceSub, Nat.reducePow, Nat.reduceLeDiff, Int.reduceToNat, DD, x_app, x_ga0, x_gas, x_gan, Int.cast_ofNat_Int, eq_self, Int.zero_lt_one, Bool.not_false, Bool.not_true, beq_self_eq_true]
end Go.Ab

/- Contracts of this seat's functions (of each call: what it answers), walked over the abstract machine, and the laws of numbers that they want. Conditions: those that each theorem states. -/
import Derived.Test.YtikemgpeiecdcaaDoorG1
set_option linter.unusedVariables false
set_option linter.unusedSimpArgs false
set_option linter.unusedSectionVars false
namespace Go.Ab
open Go.Proofs
open Cx (zero one)
attribute [-go_sem] appF newsF
variable {a b : AV} {z w : Cx} {B C n m : Nat} {cs ds : List AV} {f g : Po}
/-- a whole number as a point -/
def cst (v : Int) : Cx := ⟨dv v 0, dv 0 0⟩
theorem cst_cb {v : Int} (h : v.natAbs < 128) : CB (cst v) 20 := ⟨DB.raw (L := 7) (E := 0) h (by decide) (by decide), DB.zero 20⟩
theorem cst_1 : cst 1 = one := one_dv
theorem rof_c (v : Int) (h : v.natAbs < 128) : Sat CT false 37 [I64 v, I64 0] (CI (cst v)) := rof8_sat v 0 (by omega) (by omega) (by omega) (by omega)
theorem from_1 (z : Cx) (h : CB z 20) : Sat CT false 25 [.sl 1 (CIc z)] (PA 2 (frm (fun _ => z) 1)) :=
  rfrom_s (n := 1) (B := 20) (fun _ => z) rfl (fun i hi => by
    obtain rfl : i = 0 := by omega
    exact RC_C h) (by decide) (by decide) (by decide)
theorem frm_1 (z : Cx) : frm (fun _ => z) 1 = lin z := by
  rw [frmS, frm0]
  funext k
  rw [conv_pc_l, Cx.one_mul]
theorem pb_lin {z : Cx} (h : CB z 20) : PB (lin z) 20 := PB.lin h (by decide)
theorem req (h : PB f B) (hB : B ≤ 20000) (hn : n ≤ 1000000) : Sat CT false 18 [PA n f, PA n f] (Bo true) := by
  have := requal11 (m := n) h h hB hB hn
  rwa [decide_eq_true ⟨rfl, fun _ _ => rfl⟩] at this
theorem cst_ne {v : Int} (h : v ≠ 0) : cst v ≠ zero := fun e => h (dv_eq_zero.1 (congrArg Cx.re e))
theorem cst_sq {u v : Int} (h : u * u = v) : cst u * cst u = cst v := by
  apply Cx.ext'
  · show dv u 0 * dv u 0 - dv 0 0 * dv 0 0 = dv v 0
    rw [dv_mul, h, dv_zero]
    show dv v (0 + 0) - 0 * 0 = dv v 0
    rw [Int.add_zero]
    grind
  · show dv u 0 * dv 0 0 + dv 0 0 * dv u 0 = dv 0 0
    rw [dv_zero]
    grind
theorem stp_c {u v : Int} (h : u * u = v) : stp 2 (lin (cst u)) = lin (cst v) := by
  funext k
  rw [stp_lin, cst_sq h]
theorem dgE_lin {z : Cx} (h : z ≠ zero) : dg 2 (pE (lin z)) = 1 := by
  rw [dgS, if_pos (show pE (lin z) 1 = zero from rfl), dgS, if_neg (show ¬ pE (lin z) 0 = zero from fun e => h (Cx.neg_inj (e.trans rfl)))]
theorem dgO_lin (z : Cx) : dg 2 (pO (lin z)) = 1 := by
  rw [dgS, if_pos (show pO (lin z) 1 = zero from rfl), dgS, if_neg (show ¬ pO (lin z) 0 = zero from one_ne)]
set_option maxRecDepth 100000 in
theorem known13_s  : Sat CT false 12 [] (Bo true) := by
  refine sat_of annuluslaw13_known.ok (by simp) ?_
  have DD := annuluslaw13_known.dr
  simp only [drP, drPx, drR, drS, bodyOf, Tryd.f12, Nat.reduceEqDiff, reduceIte, true_and, and_true] at DD
  have b2 := cst_cb (v := 2) (by decide)
  have b4 := cst_cb (v := 4) (by decide)
  have b16 := cst_cb (v := 16) (by decide)
  have k2 := rof_c 2 (by decide)
  have k4 := rof_c 4 (by decide)
  have k16 := rof_c 16 (by decide)
  have f2 := from_1 _ b2
  have f4 := from_1 _ b4
  have f16 := from_1 _ b16
  rw [frm_1] at f2 f4 f16
  have rp := RP_P (n := 2) (pb_lin b2) (Sp.lin _) (by decide)
  have q1 := gsplit_s rp (by decide) (isD_pcl _ _)
  rw [dgE_lin (cst_ne (by decide)), dgO_lin] at q1
  have q2 := gstep_s rp (by decide) (isD_pcl _ _) (by decide)
  rw [dg_lin, stp_c (show (2 : Int) * 2 = 4 by decide)] at q2
  have q3 := req (n := 2) (pb_lin b4) (by decide) (by decide)
  have q4 := gsteps_s rp 2 (by decide) (by decide) (fun k hk => by match k, hk with | 0, _ => decide | 1, _ => decide) (isD_pcl _ _) (by decide)
  rw [dg_lin, stIS, stIS, stI0, stp_c (show (2 : Int) * 2 = 4 by decide), stp_c (show (4 : Int) * 4 = 16 by decide)] at q4
  have q5 := req (n := 2) (pb_lin b16) (by decide) (by decide)
  have q6 := gmirror_s rp (by decide)
  rw [dg_lin] at q6
  have q7 := gstep_s (RP_P (n := 0) (f := pz) (B := 0) (fun _ => CB.zero 0) (fun _ _ => rfl) (by omega)) (by decide) (isD_pcl _ _) (by decide)
  rw [dg0, PA_0] at q7
  have q4 : Sat CT false 20 [PA 2 (lin (cst 2)), I64 2] (PA 2 (lin (cst 16))) := q4
  have hl : ∀ f : Po, PA 1 f = .sl 1 (pcl 1 f) := fun _ => rfl
  have hl2 : ∀ f : Po, PA 2 f = .sl 2 (pcl 2 f) := fun _ => rfl
  simp -implicitDefEqProofs only [go_sem, Nat.reduceAdd, Nat.reduceEqDiff, Nat.reduceLT, reduceIte, reduceCtorEq, Int.reduceLE, Int.reduceLT, Int.reduceEq, Int.reduceAdd, Int.reduceMul, Int.reduceSub, Nat.reduceMul, Nat.reduceSub, Nat.reducePow, Nat.reduceLeDiff, Int.reduceToNat, Tryd.f12, DD, x_app, x_ga0, x_gas, x_gan, Int.cast_ofNat_Int, eq_self, Int.zero_lt_one, Bool.not_false, Bool.not_true, beq_self_eq_true]
  refine callK_pl annulusref8_Of.call (k2) (pl2 pld_int pld_int) ?_
  simp -implicitDefEqProofs only [go_sem, Nat.reduceAdd, Nat.reduceEqDiff, Nat.reduceLT, reduceIte, reduceCtorEq, Int.reduceLE, Int.reduceLT, Int.reduceEq, Int.reduceAdd, Int.reduceMul, Int.reduceSub, Nat.reduceMul, Nat.reduceSub, Nat.reducePow, Nat.reduceLeDiff, Int.reduceToNat, DD, x_app, x_ga0, x_gas, x_gan, Int.cast_ofNat_Int, eq_self, Int.zero_lt_one, Bool.not_false, Bool.not_true, beq_self_eq_true]
  refine callK_ar annulusref11_From.call f2 (.cons (.row (cs := CIc (cst 2)) (.inr ⟨_, true, rfl, rfl, by simp, rfl⟩) rfl (isD_pcl 1 (pc ((cst 2))))) .nil) rfl ?_
  intro H' hkp
  simp -implicitDefEqProofs only [go_sem, Nat.reduceAdd, Nat.reduceEqDiff, Nat.reduceLT, reduceIte, reduceCtorEq, Int.reduceLE, Int.reduceLT, Int.reduceEq, Int.reduceAdd, Int.reduceMul, Int.reduceSub, Nat.reduceMul, Nat.reduceSub, Nat.reducePow, Nat.reduceLeDiff, Int.reduceToNat, DD, x_app, x_ga0, x_gas, x_gan, Int.cast_ofNat_Int, eq_self, Int.zero_lt_one, Bool.not_false, Bool.not_true, beq_self_eq_true]
  refine callK_pl graeffe_Split.call (q1) (pl1 (pld_PA _ _)) ?_
  simp -implicitDefEqProofs only [go_sem, Nat.reduceAdd, Nat.reduceEqDiff, Nat.reduceLT, reduceIte, reduceCtorEq, Int.reduceLE, Int.reduceLT, Int.reduceEq, Int.reduceAdd, Int.reduceMul, Int.reduceSub, Nat.reduceMul, Nat.reduceSub, Nat.reducePow, Nat.reduceLeDiff, Int.reduceToNat, DD, x_app, x_ga0, x_gas, x_gan, Int.cast_ofNat_Int, eq_self, Int.zero_lt_one, Bool.not_false, Bool.not_true, beq_self_eq_true]
  refine callK_pl graeffe_Step.call (q2) (pl1 (pld_PA _ _)) ?_
  simp -implicitDefEqProofs only [go_sem, Nat.reduceAdd, Nat.reduceEqDiff, Nat.reduceLT, reduceIte, reduceCtorEq, Int.reduceLE, Int.reduceLT, Int.reduceEq, Int.reduceAdd, Int.reduceMul, Int.reduceSub, Nat.reduceMul, Nat.reduceSub, Nat.reducePow, Nat.reduceLeDiff, Int.reduceToNat, DD, x_app, x_ga0, x_gas, x_gan, Int.cast_ofNat_Int, eq_self, Int.zero_lt_one, Bool.not_false, Bool.not_true, beq_self_eq_true]
  refine callK_pl annulusref8_Of.call (k4) (pl2 pld_int pld_int) ?_
  simp -implicitDefEqProofs only [go_sem, Nat.reduceAdd, Nat.reduceEqDiff, Nat.reduceLT, reduceIte, reduceCtorEq, Int.reduceLE, Int.reduceLT, Int.reduceEq, Int.reduceAdd, Int.reduceMul, Int.reduceSub, Nat.reduceMul, Nat.reduceSub, Nat.reducePow, Nat.reduceLeDiff, Int.reduceToNat, DD, x_app, x_ga0, x_gas, x_gan, Int.cast_ofNat_Int, eq_self, Int.zero_lt_one, Bool.not_false, Bool.not_true, beq_self_eq_true]
  refine callK_ar annulusref11_From.call f4 (.cons (.row (cs := CIc (cst 4)) (.inr ⟨_, true, rfl, x_hget, by simp, rfl⟩) rfl (isD_pcl 1 (pc (cst 4)))) .nil) rfl ?_
  intro H2 _
  simp -implicitDefEqProofs only [go_sem, Nat.reduceAdd, Nat.reduceEqDiff, Nat.reduceLT, reduceIte, reduceCtorEq, Int.reduceLE, Int.reduceLT, Int.reduceEq, Int.reduceAdd, Int.reduceMul, Int.reduceSub, Nat.reduceMul, Nat.reduceSub, Nat.reducePow, Nat.reduceLeDiff, Int.reduceToNat, DD, x_app, x_ga0, x_gas, x_gan, Int.cast_ofNat_Int, eq_self, Int.zero_lt_one, Bool.not_false, Bool.not_true, beq_self_eq_true]
  refine callK_pl annulusref11_Equal.call (q3) (pl2 (pld_PA _ _) (pld_PA _ _)) ?_
  simp -implicitDefEqProofs only [go_sem, Nat.reduceAdd, Nat.reduceEqDiff, Nat.reduceLT, reduceIte, reduceCtorEq, Int.reduceLE, Int.reduceLT, Int.reduceEq, Int.reduceAdd, Int.reduceMul, Int.reduceSub, Nat.reduceMul, Nat.reduceSub, Nat.reducePow, Nat.reduceLeDiff, Int.reduceToNat, DD, x_app, x_ga0, x_gas, x_gan, Int.cast_ofNat_Int, eq_self, Int.zero_lt_one, Bool.not_false, Bool.not_true, beq_self_eq_true]
  refine callK_pl graeffe_Steps.call (q4) (pl2 (pld_PA _ _) pld_int) ?_
  simp -implicitDefEqProofs only [go_sem, Nat.reduceAdd, Nat.reduceEqDiff, Nat.reduceLT, reduceIte, reduceCtorEq, Int.reduceLE, Int.reduceLT, Int.reduceEq, Int.reduceAdd, Int.reduceMul, Int.reduceSub, Nat.reduceMul, Nat.reduceSub, Nat.reducePow, Nat.reduceLeDiff, Int.reduceToNat, DD, x_app, x_ga0, x_gas, x_gan, Int.cast_ofNat_Int, eq_self, Int.zero_lt_one, Bool.not_false, Bool.not_true, beq_self_eq_true]
  refine callK_pl annulusref8_Of.call (k16) (pl2 pld_int pld_int) ?_
  simp -implicitDefEqProofs only [go_sem, Nat.reduceAdd, Nat.reduceEqDiff, Nat.reduceLT, reduceIte, reduceCtorEq, Int.reduceLE, Int.reduceLT, Int.reduceEq, Int.reduceAdd, Int.reduceMul, Int.reduceSub, Nat.reduceMul, Nat.reduceSub, Nat.reducePow, Nat.reduceLeDiff, Int.reduceToNat, DD, x_app, x_ga0, x_gas, x_gan, Int.cast_ofNat_Int, eq_self, Int.zero_lt_one, Bool.not_false, Bool.not_true, beq_self_eq_true]
  refine callK_ar annulusref11_From.call f16 (.cons (.row (cs := CIc (cst 16)) (.inr ⟨_, true, rfl, x_hget, by simp, rfl⟩) rfl (isD_pcl 1 (pc (cst 16)))) .nil) rfl ?_
  intro H3 _
  simp -implicitDefEqProofs only [go_sem, Nat.reduceAdd, Nat.reduceEqDiff, Nat.reduceLT, reduceIte, reduceCtorEq, Int.reduceLE, Int.reduceLT, Int.reduceEq, Int.reduceAdd, Int.reduceMul, Int.reduceSub, Nat.reduceMul, Nat.reduceSub, Nat.reducePow, Nat.reduceLeDiff, Int.reduceToNat, DD, x_app, x_ga0, x_gas, x_gan, Int.cast_ofNat_Int, eq_self, Int.zero_lt_one, Bool.not_false, Bool.not_true, beq_self_eq_true]
  refine callK_pl annulusref11_Equal.call (q5) (pl2 (pld_PA _ _) (pld_PA _ _)) ?_
  simp -implicitDefEqProofs only [go_sem, Nat.reduceAdd, Nat.reduceEqDiff, Nat.reduceLT, reduceIte, reduceCtorEq, Int.reduceLE, Int.reduceLT, Int.reduceEq, Int.reduceAdd, Int.reduceMul, Int.reduceSub, Nat.reduceMul, Nat.reduceSub, Nat.reducePow, Nat.reduceLeDiff, Int.reduceToNat, DD, x_app, x_ga0, x_gas, x_gan, Int.cast_ofNat_Int, eq_self, Int.zero_lt_one, Bool.not_false, Bool.not_true, beq_self_eq_true, hl]
  refine callK_pl graeffe_Mirror.call (q6) (pl1 (pld_PA _ _)) ?_
  simp -implicitDefEqProofs only [go_sem, Nat.reduceAdd, Nat.reduceEqDiff, Nat.reduceLT, reduceIte, reduceCtorEq, Int.reduceLE, Int.reduceLT, Int.reduceEq, Int.reduceAdd, Int.reduceMul, Int.reduceSub, Nat.reduceMul, Nat.reduceSub, Nat.reducePow, Nat.reduceLeDiff, Int.reduceToNat, DD, x_app, x_ga0, x_gas, x_gan, Int.cast_ofNat_Int, eq_self, Int.zero_lt_one, Bool.not_false, Bool.not_true, beq_self_eq_true, hl2]
  refine callK_ar graeffe_Step.call q7 (.cons .none .nil) rfl ?_
  intro H4 _
  simp -implicitDefEqProofs only [go_sem, Nat.reduceAdd, Nat.reduceEqDiff, Nat.reduceLT, reduceIte, reduceCtorEq, Int.reduceLE, Int.reduceLT, Int.reduceEq, Int.reduceAdd, Int.reduceMul, Int.reduceSub, Nat.reduceMul, Nat.reduceSub, Nat.reducePow, Nat.reduceLeDiff, Int.reduceToNat, DD, x_app, x_ga0, x_gas, x_gan, Int.cast_ofNat_Int, eq_self, Int.zero_lt_one, Bool.not_false, Bool.not_true, beq_self_eq_true]
end Go.Ab

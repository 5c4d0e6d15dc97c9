/- Contracts of this seat's functions (of each call: what it answers), walked over the abstract machine, and the laws of numbers that they want. Conditions: those that each theorem states. -/
import Derived.Test.YtcnhnabmkfagbaaGreatDoorD15
set_option linter.unusedVariables false
set_option maxRecDepth 20000
set_option linter.unusedSimpArgs false
set_option linter.unusedSectionVars false
namespace Go.Ab
open Go.Proofs
open Cx (zero one)
attribute [-go_sem] appF newsF
variable {a b : AV} {z w : Cx} {B C n m : Nat} {cs ds : List AV} {f g : Po}
theorem pcl_px (n : Nat) (g : Po) : pcl (n + 1) (px g) = CIc zero ++ pcl n g := by
  induction n with
  | zero => rw [pclS, pcl0, pcl0]; rfl
  | succ n ih => rw [pclS, ih, pclS n g, List.append_assoc]; rfl
theorem Sp.px {n : Nat} {g : Po} (h : Sp n g) : Sp (n + 1) (px g) := fun k hk => by
  obtain ⟨j, rfl⟩ : ∃ j, k = j + 1 := ⟨k - 1, by omega⟩
  exact h j (by omega)
theorem psub_pz (g : Po) : psub pz g = pneg g := by
  funext k; show zero - g k = - g k; rw [Cx.sub_eq, Cx.zero_add]
theorem Sp.pneg {n : Nat} {g : Po} (h : Sp n g) : Sp n (pneg g) := fun k hk => by show - g k = zero; rw [h k hk]; rfl
theorem dg_out {n N : Nat} {f : Po} (hs : Sp n f) (hN : Sp N (sr f)) : dg N (sr f) = dg n f := (dg_ind hN hs.sr).trans (dg_sr hs)
theorem gstep_s (h : RP cs n f B) (hB : 2 * B + 4 * n ≤ 19000) (hcs : ∀ c ∈ cs, IsD c) (hn : n ≤ 100000) : Sat CT false 37 [.sl n cs] (PA (dg n f) (stp n f)) := by
  refine sat_of graeffe_Step.ok (by simp) ?_
  have DD := graeffe_Step.dr
  simp only [drP, drPx, drPt, drR, drS, drT, bodyOf, Tryz.f37, Nat.reduceEqDiff, reduceIte, true_and, and_true] at DD
  have hpE := h.pb.pE
  have hpO := h.pb.pO
  have sE := dg_sp h.sp.pE
  have sO := dg_sp h.sp.pO
  have lE := dg_le n (pE f)
  have lO := dg_le n (pO f)
  have lD := dg_le n f
  have q0 := gsplit_s h (by omega) hcs
  have hdeg := pdeg_s h (by omega) hcs
  generalize dg n (pE f) = E at *
  generalize dg n (pO f) = O at *
  have q1 := pmul_s (RP_P hpO sO (by omega)) (RP_P hpO sO (by omega)) (by omega) (isD_pcl _ _) (isD_pcl _ _) (by omega)
  have q2 := pmul_s (RP_P hpE sE (by omega)) (RP_P hpE sE (by omega)) (by omega) (isD_pcl _ _) (isD_pcl _ _) (by omega)
  have b1 := PB.conv hpO hpO sO
  have b2 := PB.conv hpE hpE sE
  have s1 := dg_sp (Sp.conv1 sO sO)
  have s2 := dg_sp (Sp.conv1 sE sE)
  have l1 := dg_le (O + O) (conv (pO f) (pO f))
  have l2 := dg_le (E + E) (conv (pE f) (pE f))
  generalize dg (O + O) (conv (pO f) (pO f)) = S at *
  generalize dg (E + E) (conv (pE f) (pE f)) = T at *
  have q3 := psub_s (RP_P b2 s2 (by omega)) (RP_P b1.px s1.px (by omega)) (by omega) (by omega) (isD_pcl _ _) (isD_pcl _ _)
  have s3 := Sp.psub s2 s1.px
  have b3 := PB.sr h.pb h.sp
  rw [show psub (conv (pE f) (pE f)) (px (conv (pO f) (pO f))) = sr f from rfl] at q3 s3
  have e3 := dg_out h.sp s3
  rw [e3] at q3
  have sD : Sp (dg n f) (sr f) := by rw [← e3]; exact dg_sp s3
  have q4 := psub_s (RP_P (n := 0) (f := pz) (B := 0) (fun _ => CB.zero 0) (fun _ _ => rfl) (by omega)) (RP_P b3 sD (by omega)) (by omega) (by omega) (isD_pcl _ _) (isD_pcl _ _)
  rw [psub_pz, show max 0 (dg n f) = dg n f by omega, dg_ind sD.pneg h.sp.sr.pneg, dg_neg h.sp.sr, dg_sr h.sp] at q4
  have hP : PA 0 pz = .sl 0 [] := PA_0 _
  have cx : ¬ (2 : Int) = 0 := by decide
  simp -implicitDefEqProofs only [go_sem, simprocAttr, -Int.reducePow, Tryz.f37, DD, x_app, x_ga0, x_gas, x_gan, Int.cast_ofNat_Int, eq_self, Int.zero_lt_one, Bool.not_false, Bool.not_true, beq_self_eq_true, cx]
  refine callK_pl graeffe_Split.call (q0) (pl1 (pld_sl hcs)) ?_
  simp -implicitDefEqProofs only [go_sem, simprocAttr, -Int.reducePow, DD, x_app, x_ga0, x_gas, x_gan, Int.cast_ofNat_Int, eq_self, Int.zero_lt_one, Bool.not_false, Bool.not_true, beq_self_eq_true, cx]
  refine callK_pl poly_Mul.call (q1) (pl2 (pld_PA _ _) (pld_PA _ _)) ?_
  simp -implicitDefEqProofs only [go_sem, simprocAttr, -Int.reducePow, DD, x_app, x_ga0, x_gas, x_gan, Int.cast_ofNat_Int, eq_self, Int.zero_lt_one, Bool.not_false, Bool.not_true, beq_self_eq_true, cx]
  refine callK_pl poly_Mul.call (q2) (pl2 (pld_PA _ _) (pld_PA _ _)) ?_
  simp -implicitDefEqProofs only [go_sem, simprocAttr, -Int.reducePow, DD, x_app, x_ga0, x_gas, x_gan, Int.cast_ofNat_Int, eq_self, Int.zero_lt_one, Bool.not_false, Bool.not_true, beq_self_eq_true, cx]
  refine app_one (P := Tryz.prog) tk22 rfl tk29 tk22 rfl rfl (by decide) (n := 1) (m := S) (k := 0) (cs := zc6) (news := pcl S (conv (pO f) (pO f))) rfl rfl rfl rfl (pcl_len _ _) (leaf_pcl _ _) (Nat.le_trans (Nat.mul_le_mul_right _ (show 1 + S ≤ 1000001 by omega)) (by decide)) (by omega) ?_
  intro H' hg hl'
  simp -implicitDefEqProofs only [go_sem, simprocAttr, -Int.reducePow, DD, x_app, x_ga0, x_gas, x_gan, Int.cast_ofNat_Int, eq_self, Int.zero_lt_one, Bool.not_false, Bool.not_true, beq_self_eq_true, cx]
  refine callK_ar poly_Sub.call q3 (.cons (.pl (pld_PA _ _)) (.cons (.row (cs := zc6 ++ pcl S (conv (pO f) (pO f))) (by rw [Nat.add_comm 1 S]; exact .inr ⟨_, true, rfl, hg, by rw [hl']; simp, by simp [pcl_len, zc6]; omega⟩) (by rw [List.map_append, snap0_pcl, pcl_px, CIc_0]; rfl) (isD_pcl _ _)) .nil)) rfl ?_
  intro H'' _
  simp -implicitDefEqProofs only [go_sem, simprocAttr, -Int.reducePow, DD, x_app, x_ga0, x_gas, x_gan, Int.cast_ofNat_Int, eq_self, Int.zero_lt_one, Bool.not_false, Bool.not_true, beq_self_eq_true, cx]
  refine callK_pl poly_Degree.call (hdeg) (pl1 (pld_sl hcs)) ?_
  simp -implicitDefEqProofs only [go_sem, simprocAttr, -Int.reducePow, DD, x_app, x_ga0, x_gas, x_gan, Int.cast_ofNat_Int, eq_self, Int.zero_lt_one, Bool.not_false, Bool.not_true, beq_self_eq_true, cx]
  have es : stp n f = if dg n f % 2 = 0 then pneg (sr f) else sr f := rfl
  generalize dg n f = D at *
  by_cases hD : D = 0
  · subst hD
    have c1 : ¬ ((0 : Nat) : Int) - 1 = 1 := by omega
    have c2 : (-1 : Int).tmod 2 = -1 := by decide
    have c3 : ¬ (-1 : Int) = 1 := by decide
    simp only [PA_0]
    simp -implicitDefEqProofs only [go_sem, simprocAttr, -Int.reducePow, DD, x_app, x_ga0, x_gas, x_gan, Int.cast_ofNat_Int, eq_self, Int.zero_lt_one, Bool.not_false, Bool.not_true, beq_self_eq_true, cx, c2, c3, Int.natCast_zero]
  · have c2 : ((D : Int) - 1).tmod 2 = (((D - 1) % 2 : Nat) : Int) := by rw [Int.tmod_eq_emod_of_nonneg (by omega)]; omega
    by_cases hp : D % 2 = 0
    · rw [es, if_pos hp]
      have c3 : (D - 1) % 2 = 1 := by omega
      simp -implicitDefEqProofs only [go_sem, simprocAttr, -Int.reducePow, DD, x_app, x_ga0, x_gas, x_gan, Int.cast_ofNat_Int, eq_self, Int.zero_lt_one, Bool.not_false, Bool.not_true, beq_self_eq_true, cx, c2, c3, Int.natCast_one]
      refine callK_ar poly_Sub.call q4 (.cons .none (.cons (.pl (pld_PA _ _)) .nil)) rfl ?_
      intro H3 _
      simp -implicitDefEqProofs only [go_sem, simprocAttr, -Int.reducePow, DD, x_app, x_ga0, x_gas, x_gan, Int.cast_ofNat_Int, eq_self, Int.zero_lt_one, Bool.not_false, Bool.not_true, beq_self_eq_true, cx]
      exact ⟨trivial, isD_PA _ _, rfl⟩
    · rw [es, if_neg hp]
      have c3 : (D - 1) % 2 = 0 := by omega
      have c4 : ¬ (0 : Int) = 1 := by decide
      simp -implicitDefEqProofs only [go_sem, simprocAttr, -Int.reducePow, DD, x_app, x_ga0, x_gas, x_gan, Int.cast_ofNat_Int, eq_self, Int.zero_lt_one, Bool.not_false, Bool.not_true, beq_self_eq_true, cx, c2, c3, c4, Int.natCast_zero]
      exact ⟨trivial, isD_PA _ _, rfl⟩
end Go.Ab

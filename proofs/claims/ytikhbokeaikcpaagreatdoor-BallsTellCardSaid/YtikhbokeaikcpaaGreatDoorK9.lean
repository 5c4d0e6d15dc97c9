/- Contracts of this seat's functions (of each call: what it answers), walked over the abstract machine, and the laws of numbers that they want. Conditions: those that each theorem states. -/
import Derived.Test.YtikhbokeaikcpaaGreatDoorK8
set_option linter.unusedVariables false
set_option maxRecDepth 20000
set_option linter.unusedSimpArgs false
set_option linter.unusedSectionVars false
namespace Go.Ab
open Go.Proofs
open Cx (zero one)
attribute [-go_sem] appF newsF
variable {n m k : Nat}
/-! the law of what is told of balls: whatever comes in -/
theorem few_rts {F : Nat → RawT} (hF : ∀ i, (F i).ok ∧ (-9223372036854775808 ≤ (F i).q ∧ (F i).q ≤ 9223372036854775807)) (hs : ∀ i, i < n → (F i).sm) : RTs (tql n F) n (fun i => (F i).c.z) (fun i => (F i).rd) 296 296 := RTs_q (fun i hi => RawT.rts (hF i).1 (hs i hi))
set_option maxHeartbeats 2000000 in
theorem ballsTell_sat (F : Nat → RawT) (hF : ∀ i, (F i).ok ∧ (-9223372036854775808 ≤ (F i).q ∧ (F i).q ≤ 9223372036854775807)) (hn : n ≤ 9223372036854775807) (G : Nat → RawT) (hG : ∀ i, (G i).ok ∧ (-9223372036854775808 ≤ (G i).q ∧ (G i).q ≤ 9223372036854775807)) (hm : m ≤ 9223372036854775807)
    (Q : Nat → Raw) (hQ : ∀ i, (Q i).ok) (hk : k ≤ 9223372036854775807) (X : RawT) (hX : X.ok ∧ (-9223372036854775808 ≤ X.q ∧ X.q ≤ 9223372036854775807)) (b : Int) (hb : -9223372036854775808 ≤ b ∧ b ≤ 9223372036854775807) :
    Sat CT false 4 [.sl n (tql n F), .sl m (tql m G), .sl k (qcl k Q), .agg X.cells, I64 b] (Bo true) := by
  have k0 := known12_s
  have f1 := fewB12_s F hn
  have f2 := fewB12_s G hm
  have f3 := few12_s Q hk
  have f4 := fewD12_s X
  have p1 := pld_tql n F
  have p2 := pld_tql m G
  have p3 := pld_q k Q
  have p4 := pld_rawT X
  by_cases qq : (((∀ i, i < n → (F i).sm) ∧ n ≤ 10) ∧ ((∀ i, i < m → (G i).sm) ∧ m ≤ 10) ∧ ((∀ i, i < k → (Q i).sm) ∧ k ≤ 14)) ∧ X.sm ∧ ¬ (100 < b ∧ b ≤ 4000)
  · obtain ⟨⟨q1, q2, q3⟩, q4, q5⟩ := qq
    rw [decide_eq_true q1] at f1
    rw [decide_eq_true q2] at f2
    rw [decide_eq_true q3] at f3
    rw [decide_eq_true q4] at f4
    exact btell_main (few_rts hF q1.1) (isD_tql n F) q1.2 (few_rts hG q2.1) (isD_tql m G) q2.2 (RP_q (fun i _ => hQ i) q3.1 (by omega)) (isD_qcl k Q) q3.2 (RawT.rts hX.1 q4) f1 f2 f3 f4 b q5
  refine sat_of annuluslaw12_BallsTell.ok (by simp) ?_
  have DD := annuluslaw12_BallsTell.dr
  simp only [drP, drPx, drPt, drR, drS, drT, bodyOf, Tryz.f4, Nat.reduceEqDiff, reduceIte, true_and, and_true] at DD
  simp only [RawT.cells] at f4 p4
  by_cases q1 : (∀ i, i < n → (F i).sm) ∧ n ≤ 10
  · rw [decide_eq_true q1] at f1
    by_cases q2 : (∀ i, i < m → (G i).sm) ∧ m ≤ 10
    · rw [decide_eq_true q2] at f2
      by_cases q3 : (∀ i, i < k → (Q i).sm) ∧ k ≤ 14
      · rw [decide_eq_true q3] at f3
        by_cases q4 : X.sm
        · rw [decide_eq_true q4] at f4
          by_cases q5 : 100 < b ∧ b ≤ 4000
          · obtain ⟨q51, q52⟩ := q5
            simp -implicitDefEqProofs only [go_sem, simprocAttr, -Int.reducePow, Tryz.f4, DD, x_app, x_ga0, x_gas, x_gan, Int.cast_ofNat_Int, eq_self, Int.zero_lt_one, Bool.not_false, Bool.not_true, beq_self_eq_true, RawT.cells, q51, q52, gt_iff_lt]
            refine callK_q annuluslaw12_known.call (k0) rfl rfl ?_
            simp -implicitDefEqProofs only [go_sem, simprocAttr, -Int.reducePow, DD, x_app, x_ga0, x_gas, x_gan, Int.cast_ofNat_Int, eq_self, Int.zero_lt_one, Bool.not_false, Bool.not_true, beq_self_eq_true, q51, q52, gt_iff_lt]
            refine callK_pl annuluslaw12_fewBalls.call (f1) (pl1 p1) ?_
            simp -implicitDefEqProofs only [go_sem, simprocAttr, -Int.reducePow, DD, x_app, x_ga0, x_gas, x_gan, Int.cast_ofNat_Int, eq_self, Int.zero_lt_one, Bool.not_false, Bool.not_true, beq_self_eq_true, q51, q52, gt_iff_lt]
            refine callK_pl annuluslaw12_fewBalls.call (f2) (pl1 p2) ?_
            simp -implicitDefEqProofs only [go_sem, simprocAttr, -Int.reducePow, DD, x_app, x_ga0, x_gas, x_gan, Int.cast_ofNat_Int, eq_self, Int.zero_lt_one, Bool.not_false, Bool.not_true, beq_self_eq_true, q51, q52, gt_iff_lt]
            refine callK_pl annuluslaw12_few.call (f3) (pl1 p3) ?_
            simp -implicitDefEqProofs only [go_sem, simprocAttr, -Int.reducePow, DD, x_app, x_ga0, x_gas, x_gan, Int.cast_ofNat_Int, eq_self, Int.zero_lt_one, Bool.not_false, Bool.not_true, beq_self_eq_true, q51, q52, gt_iff_lt]
            refine callK_pl annuluslaw12_fewDisc.call (f4) (pl1 p4) ?_
            simp -implicitDefEqProofs only [go_sem, simprocAttr, -Int.reducePow, DD, x_app, x_ga0, x_gas, x_gan, Int.cast_ofNat_Int, eq_self, Int.zero_lt_one, Bool.not_false, Bool.not_true, beq_self_eq_true, q51, q52, gt_iff_lt]
          · exact absurd ⟨⟨q1, q2, q3⟩, q4, q5⟩ qq
        · rw [decide_eq_false q4] at f4
          simp -implicitDefEqProofs only [go_sem, simprocAttr, -Int.reducePow, Tryz.f4, DD, x_app, x_ga0, x_gas, x_gan, Int.cast_ofNat_Int, eq_self, Int.zero_lt_one, Bool.not_false, Bool.not_true, beq_self_eq_true, RawT.cells]
          refine callK_q annuluslaw12_known.call (k0) rfl rfl ?_
          simp -implicitDefEqProofs only [go_sem, simprocAttr, -Int.reducePow, DD, x_app, x_ga0, x_gas, x_gan, Int.cast_ofNat_Int, eq_self, Int.zero_lt_one, Bool.not_false, Bool.not_true, beq_self_eq_true]
          refine callK_pl annuluslaw12_fewBalls.call (f1) (pl1 p1) ?_
          simp -implicitDefEqProofs only [go_sem, simprocAttr, -Int.reducePow, DD, x_app, x_ga0, x_gas, x_gan, Int.cast_ofNat_Int, eq_self, Int.zero_lt_one, Bool.not_false, Bool.not_true, beq_self_eq_true]
          refine callK_pl annuluslaw12_fewBalls.call (f2) (pl1 p2) ?_
          simp -implicitDefEqProofs only [go_sem, simprocAttr, -Int.reducePow, DD, x_app, x_ga0, x_gas, x_gan, Int.cast_ofNat_Int, eq_self, Int.zero_lt_one, Bool.not_false, Bool.not_true, beq_self_eq_true]
          refine callK_pl annuluslaw12_few.call (f3) (pl1 p3) ?_
          simp -implicitDefEqProofs only [go_sem, simprocAttr, -Int.reducePow, DD, x_app, x_ga0, x_gas, x_gan, Int.cast_ofNat_Int, eq_self, Int.zero_lt_one, Bool.not_false, Bool.not_true, beq_self_eq_true]
          refine callK_pl annuluslaw12_fewDisc.call (f4) (pl1 p4) ?_
          simp -implicitDefEqProofs only [go_sem, simprocAttr, -Int.reducePow, DD, x_app, x_ga0, x_gas, x_gan, Int.cast_ofNat_Int, eq_self, Int.zero_lt_one, Bool.not_false, Bool.not_true, beq_self_eq_true]
      · rw [decide_eq_false q3] at f3
        simp -implicitDefEqProofs only [go_sem, simprocAttr, -Int.reducePow, Tryz.f4, DD, x_app, x_ga0, x_gas, x_gan, Int.cast_ofNat_Int, eq_self, Int.zero_lt_one, Bool.not_false, Bool.not_true, beq_self_eq_true, RawT.cells]
        refine callK_q annuluslaw12_known.call (k0) rfl rfl ?_
        simp -implicitDefEqProofs only [go_sem, simprocAttr, -Int.reducePow, DD, x_app, x_ga0, x_gas, x_gan, Int.cast_ofNat_Int, eq_self, Int.zero_lt_one, Bool.not_false, Bool.not_true, beq_self_eq_true]
        refine callK_pl annuluslaw12_fewBalls.call (f1) (pl1 p1) ?_
        simp -implicitDefEqProofs only [go_sem, simprocAttr, -Int.reducePow, DD, x_app, x_ga0, x_gas, x_gan, Int.cast_ofNat_Int, eq_self, Int.zero_lt_one, Bool.not_false, Bool.not_true, beq_self_eq_true]
        refine callK_pl annuluslaw12_fewBalls.call (f2) (pl1 p2) ?_
        simp -implicitDefEqProofs only [go_sem, simprocAttr, -Int.reducePow, DD, x_app, x_ga0, x_gas, x_gan, Int.cast_ofNat_Int, eq_self, Int.zero_lt_one, Bool.not_false, Bool.not_true, beq_self_eq_true]
        refine callK_pl annuluslaw12_few.call (f3) (pl1 p3) ?_
        simp -implicitDefEqProofs only [go_sem, simprocAttr, -Int.reducePow, DD, x_app, x_ga0, x_gas, x_gan, Int.cast_ofNat_Int, eq_self, Int.zero_lt_one, Bool.not_false, Bool.not_true, beq_self_eq_true]
    · rw [decide_eq_false q2] at f2
      simp -implicitDefEqProofs only [go_sem, simprocAttr, -Int.reducePow, Tryz.f4, DD, x_app, x_ga0, x_gas, x_gan, Int.cast_ofNat_Int, eq_self, Int.zero_lt_one, Bool.not_false, Bool.not_true, beq_self_eq_true, RawT.cells]
      refine callK_q annuluslaw12_known.call (k0) rfl rfl ?_
      simp -implicitDefEqProofs only [go_sem, simprocAttr, -Int.reducePow, DD, x_app, x_ga0, x_gas, x_gan, Int.cast_ofNat_Int, eq_self, Int.zero_lt_one, Bool.not_false, Bool.not_true, beq_self_eq_true]
      refine callK_pl annuluslaw12_fewBalls.call (f1) (pl1 p1) ?_
      simp -implicitDefEqProofs only [go_sem, simprocAttr, -Int.reducePow, DD, x_app, x_ga0, x_gas, x_gan, Int.cast_ofNat_Int, eq_self, Int.zero_lt_one, Bool.not_false, Bool.not_true, beq_self_eq_true]
      refine callK_pl annuluslaw12_fewBalls.call (f2) (pl1 p2) ?_
      simp -implicitDefEqProofs only [go_sem, simprocAttr, -Int.reducePow, DD, x_app, x_ga0, x_gas, x_gan, Int.cast_ofNat_Int, eq_self, Int.zero_lt_one, Bool.not_false, Bool.not_true, beq_self_eq_true]
  · rw [decide_eq_false q1] at f1
    simp -implicitDefEqProofs only [go_sem, simprocAttr, -Int.reducePow, Tryz.f4, DD, x_app, x_ga0, x_gas, x_gan, Int.cast_ofNat_Int, eq_self, Int.zero_lt_one, Bool.not_false, Bool.not_true, beq_self_eq_true, RawT.cells]
    refine callK_q annuluslaw12_known.call (k0) rfl rfl ?_
    simp -implicitDefEqProofs only [go_sem, simprocAttr, -Int.reducePow, DD, x_app, x_ga0, x_gas, x_gan, Int.cast_ofNat_Int, eq_self, Int.zero_lt_one, Bool.not_false, Bool.not_true, beq_self_eq_true]
    refine callK_pl annuluslaw12_fewBalls.call (f1) (pl1 p1) ?_
    simp -implicitDefEqProofs only [go_sem, simprocAttr, -Int.reducePow, DD, x_app, x_ga0, x_gas, x_gan, Int.cast_ofNat_Int, eq_self, Int.zero_lt_one, Bool.not_false, Bool.not_true, beq_self_eq_true]
end Go.Ab

/- Contracts of this seat's functions (of each call: what it answers), walked over the abstract machine, and the laws of numbers that they want. Conditions: those that each theorem states. -/
import Derived.Test.YtikemgpeiecdcaaDoorD20
set_option linter.unusedVariables false
set_option linter.unusedSimpArgs false
set_option linter.unusedSectionVars false
namespace Go.Ab
open Go.Proofs
open Cx (zero one)
attribute [-go_sem] appF newsF
variable {a b : AV} {z w : Cx} {B C n m : Nat} {cs ds : List AV} {f g : Po}
set_option maxRecDepth 100000 in
set_option maxHeartbeats 4000000 in
theorem graeffeTops_sat (F : Nat → Raw) (hF : ∀ i, (F i).ok) (hn : n ≤ 9223372036854775807) : Sat CT false 7 [.sl n (qcl n F)] (Bo true) := by
  refine sat_of annuluslaw13_GraeffeTops.ok (by simp) ?_
  have DD := annuluslaw13_GraeffeTops.dr
  simp only [drP, drPx, drR, drS, bodyOf, Tryd.f7, Nat.reduceEqDiff, reduceIte, true_and, and_true] at DD
  have kn := known13_s
  have fw := few13_s F hn
  by_cases hf : (∀ i, i < n → (F i).sm) ∧ n ≤ 14
  · rw [decide_eq_true hf] at fw
    have h := RP_q (fun i _ => hF i) hf.1 (by omega)
    have hn14 := hf.2
    have hcs := isD_qcl n F
    generalize qpo n F = f at h
    generalize qcl n F = cs at *
    have hs := dg_sp h.sp
    have hle := dg_le n f
    have hself := dg_self h.sp
    have hpb := h.pb
    have q1 := rtrim_s h (by omega)
    have q4 := gstep_s h (by omega) hcs (by omega)
    rw [stp_ind h.sp hs] at q4
    generalize dg n f = d at *
    have hP1 : PA d f = .sl d (pcl d f) := rfl
    have hP2 : PA d (stp d f) = .sl d (pcl d (stp d f)) := rfl
    simp only [bodyOf, aW1, Tryd.f7]
    rw [x_seqH]
    simp -implicitDefEqProofs only [go_sem, Nat.reduceAdd, Nat.reduceEqDiff, Nat.reduceLT, reduceIte, reduceCtorEq, Int.reduceLE, Int.reduceLT, Int.reduceEq, Int.reduceAdd, Int.reduceMul, Int.reduceSub, Nat.reduceMul, Nat.reduceSub, Nat.reducePow, Nat.reduceLeDiff, Int.reduceToNat, DD, x_app, x_ga0, x_gas, x_gan, Int.cast_ofNat_Int, eq_self, Int.zero_lt_one, Bool.not_false, Bool.not_true, beq_self_eq_true]
    rw [x_HX]
    rw [x_seqH]
    simp -implicitDefEqProofs only [go_sem, Nat.reduceAdd, Nat.reduceEqDiff, Nat.reduceLT, reduceIte, reduceCtorEq, Int.reduceLE, Int.reduceLT, Int.reduceEq, Int.reduceAdd, Int.reduceMul, Int.reduceSub, Nat.reduceMul, Nat.reduceSub, Nat.reducePow, Nat.reduceLeDiff, Int.reduceToNat, DD, x_app, x_ga0, x_gas, x_gan, Int.cast_ofNat_Int, eq_self, Int.zero_lt_one, Bool.not_false, Bool.not_true, beq_self_eq_true]
    refine callK_pl annuluslaw13_known.call (kn) (pl0) ?_
    simp -implicitDefEqProofs only [go_sem, Nat.reduceAdd, Nat.reduceEqDiff, Nat.reduceLT, reduceIte, reduceCtorEq, Int.reduceLE, Int.reduceLT, Int.reduceEq, Int.reduceAdd, Int.reduceMul, Int.reduceSub, Nat.reduceMul, Nat.reduceSub, Nat.reducePow, Nat.reduceLeDiff, Int.reduceToNat, DD, x_app, x_ga0, x_gas, x_gan, Int.cast_ofNat_Int, eq_self, Int.zero_lt_one, Bool.not_false, Bool.not_true, beq_self_eq_true]
    rw [x_HX]
    rw [x_seqH]
    simp -implicitDefEqProofs only [go_sem, Nat.reduceAdd, Nat.reduceEqDiff, Nat.reduceLT, reduceIte, reduceCtorEq, Int.reduceLE, Int.reduceLT, Int.reduceEq, Int.reduceAdd, Int.reduceMul, Int.reduceSub, Nat.reduceMul, Nat.reduceSub, Nat.reducePow, Nat.reduceLeDiff, Int.reduceToNat, DD, x_app, x_ga0, x_gas, x_gan, Int.cast_ofNat_Int, eq_self, Int.zero_lt_one, Bool.not_false, Bool.not_true, beq_self_eq_true]
    refine callK_pl annuluslaw13_few.call (fw) (pl1 (pld_sl hcs)) ?_
    simp -implicitDefEqProofs only [go_sem, Nat.reduceAdd, Nat.reduceEqDiff, Nat.reduceLT, reduceIte, reduceCtorEq, Int.reduceLE, Int.reduceLT, Int.reduceEq, Int.reduceAdd, Int.reduceMul, Int.reduceSub, Nat.reduceMul, Nat.reduceSub, Nat.reducePow, Nat.reduceLeDiff, Int.reduceToNat, DD, x_app, x_ga0, x_gas, x_gan, Int.cast_ofNat_Int, eq_self, Int.zero_lt_one, Bool.not_false, Bool.not_true, beq_self_eq_true]
    rw [x_HX]
    rw [x_seqH]
    simp -implicitDefEqProofs only [go_sem, Nat.reduceAdd, Nat.reduceEqDiff, Nat.reduceLT, reduceIte, reduceCtorEq, Int.reduceLE, Int.reduceLT, Int.reduceEq, Int.reduceAdd, Int.reduceMul, Int.reduceSub, Nat.reduceMul, Nat.reduceSub, Nat.reducePow, Nat.reduceLeDiff, Int.reduceToNat, DD, x_app, x_ga0, x_gas, x_gan, Int.cast_ofNat_Int, eq_self, Int.zero_lt_one, Bool.not_false, Bool.not_true, beq_self_eq_true]
    refine callK_pl annulusref11_Trim.call (q1) (pl1 (pld_sl hcs)) ?_
    simp -implicitDefEqProofs only [go_sem, Nat.reduceAdd, Nat.reduceEqDiff, Nat.reduceLT, reduceIte, reduceCtorEq, Int.reduceLE, Int.reduceLT, Int.reduceEq, Int.reduceAdd, Int.reduceMul, Int.reduceSub, Nat.reduceMul, Nat.reduceSub, Nat.reducePow, Nat.reduceLeDiff, Int.reduceToNat, DD, x_app, x_ga0, x_gas, x_gan, Int.cast_ofNat_Int, eq_self, Int.zero_lt_one, Bool.not_false, Bool.not_true, beq_self_eq_true]
    refine callK_pl graeffe_Step.call (q4) (pl1 (pld_sl hcs)) ?_
    simp -implicitDefEqProofs only [go_sem, Nat.reduceAdd, Nat.reduceEqDiff, Nat.reduceLT, reduceIte, reduceCtorEq, Int.reduceLE, Int.reduceLT, Int.reduceEq, Int.reduceAdd, Int.reduceMul, Int.reduceSub, Nat.reduceMul, Nat.reduceSub, Nat.reducePow, Nat.reduceLeDiff, Int.reduceToNat, DD, x_app, x_ga0, x_gas, x_gan, Int.cast_ofNat_Int, eq_self, Int.zero_lt_one, Bool.not_false, Bool.not_true, beq_self_eq_true]
    rw [x_HX]
    by_cases hd0 : d = 0
    · subst hd0
      simp -implicitDefEqProofs only [go_sem, Nat.reduceAdd, Nat.reduceEqDiff, Nat.reduceLT, reduceIte, reduceCtorEq, Int.reduceLE, Int.reduceLT, Int.reduceEq, Int.reduceAdd, Int.reduceMul, Int.reduceSub, Nat.reduceMul, Nat.reduceSub, Nat.reducePow, Nat.reduceLeDiff, Int.reduceToNat, DD, x_app, x_ga0, x_gas, x_gan, Int.cast_ofNat_Int, eq_self, Int.zero_lt_one, Bool.not_false, Bool.not_true, beq_self_eq_true, hP1, hP2, Int.natCast_zero]
    · obtain ⟨e, rfl⟩ := pos_of hd0
      have c1 : ¬ ((e + 1 : Nat) : Int) = 0 := by omega
      have c2 : IntKind.i64.wrap (((e + 1 : Nat) : Int) - 1) = (e : Int) := by rw [wrap_id (by omega)]; omega
      have c3 : (0 : Int) ≤ (e : Int) := by omega
      have c4 : (e : Int) < ((e + 1 : Nat) : Int) := by omega
      have c5 : (0 : Int) < ((e + 1 : Nat) : Int) := by omega
      have c6 : e * 6 < (e + 1) * 6 := by omega
      have c7 : e * 6 + 6 ≤ (e + 1) * 6 := by omega
      have c8 : 0 < (e + 1) * 6 := by omega
      have c9 : 6 ≤ (e + 1) * 6 := by omega
      have c10 : ¬ (2 : Int) = 0 := by decide
      have hL1 := pcl_len (e + 1) f
      have hL2 := pcl_len (e + 1) (stp (e + 1) f)
      have t1 := pcl_el (n := e + 1) f (i := e) (by omega)
      have t2 := pcl_el (n := e + 1) (stp (e + 1) f) (i := e) (by omega)
      have t3 := pcl_el (n := e + 1) f (i := 0) (by omega)
      have t4 := pcl_el (n := e + 1) (stp (e + 1) f) (i := 0) (by omega)
      rw [Nat.zero_mul, List.drop_zero] at t3 t4
      have hb := hpb.stp (m := e + 1) hs
      have k1 := rmul8 (hpb 0) (hpb 0) (by omega)
      have k2 := rneg8 ((hpb 0).mul (hpb 0)) (by omega)
      have k3 := rmul8 (hpb e) (hpb e) (by omega)
      have htop : stp (e + 1) f e = f e * f e := stp_top hs (by
        have := dg_top (n := e + 1) (f := f) (by omega)
        rwa [hself] at this)
      have k4 := requal8 ((hpb e).mul (hpb e)) (by omega)
      have hlow := stp_low (e + 1) f
      rw [hself] at hlow
      have k5 := requal8 (hb 0) (by omega)
      rw [htop] at t2
      rw [x_seqH]
      simp -implicitDefEqProofs only [go_sem, Nat.reduceAdd, Nat.reduceEqDiff, Nat.reduceLT, reduceIte, reduceCtorEq, Int.reduceLE, Int.reduceLT, Int.reduceEq, Int.reduceAdd, Int.reduceMul, Int.reduceSub, Nat.reduceMul, Nat.reduceSub, Nat.reducePow, Nat.reduceLeDiff, Int.reduceToNat, DD, x_app, x_ga0, x_gas, x_gan, Int.cast_ofNat_Int, eq_self, Int.zero_lt_one, Bool.not_false, Bool.not_true, beq_self_eq_true, hP1, hP2, c1, c2, c3, c4, c5, c6, c7, c8, c9, c10, hL1, hL2, t1, t2, t3, t4]
      rw [x_HX]
      refine seq_cut aW0_mono (fun σ => ∃ sl H ka kb, σ = ⟨sl, H⟩ ∧ look sl 3 = .sl (e + 1) (pcl (e + 1) f) ∧ look sl 4 = .sl (e + 1) (pcl (e + 1) (stp (e + 1) f)) ∧ look sl 5 = .ptr ka 0 ∧ look sl 6 = .ptr kb 0 ∧ ka < H.length ∧ kb < H.length ∧ H.getD ka ⟨[], false, false⟩ = ⟨CIc (f e), true, true⟩ ∧ H.getD kb ⟨[], false, false⟩ = ⟨CIc (f e * f e), true, true⟩) ?_ ?_
      · simp -implicitDefEqProofs only [go_sem, Nat.reduceAdd, Nat.reduceEqDiff, Nat.reduceLT, reduceIte, reduceCtorEq, Int.reduceLE, Int.reduceLT, Int.reduceEq, Int.reduceAdd, Int.reduceMul, Int.reduceSub, Nat.reduceMul, Nat.reduceSub, Nat.reducePow, Nat.reduceLeDiff, Int.reduceToNat, DD, x_app, x_ga0, x_gas, x_gan, Int.cast_ofNat_Int, eq_self, Int.zero_lt_one, Bool.not_false, Bool.not_true, beq_self_eq_true, hP1, hP2, c1, c2, c3, c4, c5, c6, c7, c8, c9, c10, hL1, hL2, t1, t2, t3, t4]
        and_intros <;> first | exact ⟨_, _, 0, 1, rfl, by simp [x_look], by simp [x_look], by simp [x_look], by simp [x_look], by simp, by simp, rfl, rfl⟩ | exact ⟨_, _, 1, 0, rfl, by simp [x_look], by simp [x_look], by simp [x_look], by simp [x_look], by simp, by simp, rfl, rfl⟩
      · rintro _ ⟨sl, H, ka, kb, rfl, s3, s4, s5, s6, ha, hb2, ga, gb⟩
        have ga1 : ∀ y, (H ++ [y]).getD ka ⟨[], false, false⟩ = ⟨CIc (f e), true, true⟩ := fun y => by rw [getD_hp ha]; exact ga
        have gb1 : ∀ y, (H ++ [y]).getD kb ⟨[], false, false⟩ = ⟨CIc (f e * f e), true, true⟩ := fun y => by rw [getD_hp hb2]; exact gb
        simp -implicitDefEqProofs only [go_sem, Nat.reduceAdd, Nat.reduceEqDiff, Nat.reduceLT, reduceIte, reduceCtorEq, Int.reduceLE, Int.reduceLT, Int.reduceEq, Int.reduceAdd, Int.reduceMul, Int.reduceSub, Nat.reduceMul, Nat.reduceSub, Nat.reducePow, Nat.reduceLeDiff, Int.reduceToNat, DD, x_app, x_ga0, x_gas, x_gan, Int.cast_ofNat_Int, eq_self, Int.zero_lt_one, Bool.not_false, Bool.not_true, beq_self_eq_true, hP1, hP2, c1, c2, c3, c4, c5, c6, c7, c8, c9, c10, hL1, hL2, t1, t2, t3, t4, s3, s4, s5, s6, ga, gb, ga1, gb1, x_tmod2]
        refine callK_pl annulusref8_Mul.call (k1) (pl2 (pld_CI _) (pld_CI _)) ?_
        simp -implicitDefEqProofs only [go_sem, Nat.reduceAdd, Nat.reduceEqDiff, Nat.reduceLT, reduceIte, reduceCtorEq, Int.reduceLE, Int.reduceLT, Int.reduceEq, Int.reduceAdd, Int.reduceMul, Int.reduceSub, Nat.reduceMul, Nat.reduceSub, Nat.reducePow, Nat.reduceLeDiff, Int.reduceToNat, DD, x_app, x_ga0, x_gas, x_gan, Int.cast_ofNat_Int, eq_self, Int.zero_lt_one, Bool.not_false, Bool.not_true, beq_self_eq_true, hP1, hP2, c1, c2, c3, c4, c5, c6, c7, c8, c9, c10, hL1, hL2, t1, t2, t3, t4, s3, s4, s5, s6, ga, gb, ga1, gb1, x_tmod2]
        by_cases hp : (e + 1) % 2 = 0
        · rw [if_pos hp] at hlow
          have d1 : (((e + 1) % 2 : Nat) : Int) = 0 := by omega
          rw [hlow] at k5 t4
          simp -implicitDefEqProofs only [go_sem, Nat.reduceAdd, Nat.reduceEqDiff, Nat.reduceLT, reduceIte, reduceCtorEq, Int.reduceLE, Int.reduceLT, Int.reduceEq, Int.reduceAdd, Int.reduceMul, Int.reduceSub, Nat.reduceMul, Nat.reduceSub, Nat.reducePow, Nat.reduceLeDiff, Int.reduceToNat, DD, x_app, x_ga0, x_gas, x_gan, Int.cast_ofNat_Int, eq_self, Int.zero_lt_one, Bool.not_false, Bool.not_true, beq_self_eq_true, hP1, hP2, c1, c2, c3, c4, c5, c6, c7, c8, c9, c10, hL1, hL2, t1, t2, t3, t4, s3, s4, s5, s6, ga, gb, ga1, gb1, x_tmod2, d1]
          refine callK_pl annulusref8_Neg.call (k2) (pl1 (pld_CI _)) ?_
          simp -implicitDefEqProofs only [go_sem, Nat.reduceAdd, Nat.reduceEqDiff, Nat.reduceLT, reduceIte, reduceCtorEq, Int.reduceLE, Int.reduceLT, Int.reduceEq, Int.reduceAdd, Int.reduceMul, Int.reduceSub, Nat.reduceMul, Nat.reduceSub, Nat.reducePow, Nat.reduceLeDiff, Int.reduceToNat, DD, x_app, x_ga0, x_gas, x_gan, Int.cast_ofNat_Int, eq_self, Int.zero_lt_one, Bool.not_false, Bool.not_true, beq_self_eq_true, hP1, hP2, c1, c2, c3, c4, c5, c6, c7, c8, c9, c10, hL1, hL2, t1, t2, t3, t4, s3, s4, s5, s6, ga, gb, ga1, gb1, x_tmod2, d1]
          refine callK_pl annulusref8_Mul.call (k3) (pl2 (pld_CI _) (pld_CI _)) ?_
          simp -implicitDefEqProofs only [go_sem, Nat.reduceAdd, Nat.reduceEqDiff, Nat.reduceLT, reduceIte, reduceCtorEq, Int.reduceLE, Int.reduceLT, Int.reduceEq, Int.reduceAdd, Int.reduceMul, Int.reduceSub, Nat.reduceMul, Nat.reduceSub, Nat.reducePow, Nat.reduceLeDiff, Int.reduceToNat, DD, x_app, x_ga0, x_gas, x_gan, Int.cast_ofNat_Int, eq_self, Int.zero_lt_one, Bool.not_false, Bool.not_true, beq_self_eq_true, hP1, hP2, c1, c2, c3, c4, c5, c6, c7, c8, c9, c10, hL1, hL2, t1, t2, t3, t4, s3, s4, s5, s6, ga, gb, ga1, gb1, x_tmod2, d1]
          refine callK_pl annulusref8_Equal.call (k4) (pl2 (pld_CI _) (pld_CI _)) ?_
          simp -implicitDefEqProofs only [go_sem, Nat.reduceAdd, Nat.reduceEqDiff, Nat.reduceLT, reduceIte, reduceCtorEq, Int.reduceLE, Int.reduceLT, Int.reduceEq, Int.reduceAdd, Int.reduceMul, Int.reduceSub, Nat.reduceMul, Nat.reduceSub, Nat.reducePow, Nat.reduceLeDiff, Int.reduceToNat, DD, x_app, x_ga0, x_gas, x_gan, Int.cast_ofNat_Int, eq_self, Int.zero_lt_one, Bool.not_false, Bool.not_true, beq_self_eq_true, hP1, hP2, c1, c2, c3, c4, c5, c6, c7, c8, c9, c10, hL1, hL2, t1, t2, t3, t4, s3, s4, s5, s6, ga, gb, ga1, gb1, x_tmod2, d1]
          refine callK_pl annulusref8_Equal.call (k5) (pl2 (pld_CI _) (pld_CI _)) ?_
          simp -implicitDefEqProofs only [go_sem, Nat.reduceAdd, Nat.reduceEqDiff, Nat.reduceLT, reduceIte, reduceCtorEq, Int.reduceLE, Int.reduceLT, Int.reduceEq, Int.reduceAdd, Int.reduceMul, Int.reduceSub, Nat.reduceMul, Nat.reduceSub, Nat.reducePow, Nat.reduceLeDiff, Int.reduceToNat, DD, x_app, x_ga0, x_gas, x_gan, Int.cast_ofNat_Int, eq_self, Int.zero_lt_one, Bool.not_false, Bool.not_true, beq_self_eq_true, hP1, hP2, c1, c2, c3, c4, c5, c6, c7, c8, c9, c10, hL1, hL2, t1, t2, t3, t4, s3, s4, s5, s6, ga, gb, ga1, gb1, x_tmod2, d1]
        · rw [if_neg hp] at hlow
          have d1 : ¬ (((e + 1) % 2 : Nat) : Int) = 0 := by omega
          rw [hlow] at k5 t4
          simp -implicitDefEqProofs only [go_sem, Nat.reduceAdd, Nat.reduceEqDiff, Nat.reduceLT, reduceIte, reduceCtorEq, Int.reduceLE, Int.reduceLT, Int.reduceEq, Int.reduceAdd, Int.reduceMul, Int.reduceSub, Nat.reduceMul, Nat.reduceSub, Nat.reducePow, Nat.reduceLeDiff, Int.reduceToNat, DD, x_app, x_ga0, x_gas, x_gan, Int.cast_ofNat_Int, eq_self, Int.zero_lt_one, Bool.not_false, Bool.not_true, beq_self_eq_true, hP1, hP2, c1, c2, c3, c4, c5, c6, c7, c8, c9, c10, hL1, hL2, t1, t2, t3, t4, s3, s4, s5, s6, ga, gb, ga1, gb1, x_tmod2, d1]
          refine callK_pl annulusref8_Mul.call (k3) (pl2 (pld_CI _) (pld_CI _)) ?_
          simp -implicitDefEqProofs only [go_sem, Nat.reduceAdd, Nat.reduceEqDiff, Nat.reduceLT, reduceIte, reduceCtorEq, Int.reduceLE, Int.reduceLT, Int.reduceEq, Int.reduceAdd, Int.reduceMul, Int.reduceSub, Nat.reduceMul, Nat.reduceSub, Nat.reducePow, Nat.reduceLeDiff, Int.reduceToNat, DD, x_app, x_ga0, x_gas, x_gan, Int.cast_ofNat_Int, eq_self, Int.zero_lt_one, Bool.not_false, Bool.not_true, beq_self_eq_true, hP1, hP2, c1, c2, c3, c4, c5, c6, c7, c8, c9, c10, hL1, hL2, t1, t2, t3, t4, s3, s4, s5, s6, ga, gb, ga1, gb1, x_tmod2, d1]
          refine callK_pl annulusref8_Equal.call (k4) (pl2 (pld_CI _) (pld_CI _)) ?_
          simp -implicitDefEqProofs only [go_sem, Nat.reduceAdd, Nat.reduceEqDiff, Nat.reduceLT, reduceIte, reduceCtorEq, Int.reduceLE, Int.reduceLT, Int.reduceEq, Int.reduceAdd, Int.reduceMul, Int.reduceSub, Nat.reduceMul, Nat.reduceSub, Nat.reducePow, Nat.reduceLeDiff, Int.reduceToNat, DD, x_app, x_ga0, x_gas, x_gan, Int.cast_ofNat_Int, eq_self, Int.zero_lt_one, Bool.not_false, Bool.not_true, beq_self_eq_true, hP1, hP2, c1, c2, c3, c4, c5, c6, c7, c8, c9, c10, hL1, hL2, t1, t2, t3, t4, s3, s4, s5, s6, ga, gb, ga1, gb1, x_tmod2, d1]
          refine callK_pl annulusref8_Equal.call (k5) (pl2 (pld_CI _) (pld_CI _)) ?_
          simp -implicitDefEqProofs only [go_sem, Nat.reduceAdd, Nat.reduceEqDiff, Nat.reduceLT, reduceIte, reduceCtorEq, Int.reduceLE, Int.reduceLT, Int.reduceEq, Int.reduceAdd, Int.reduceMul, Int.reduceSub, Nat.reduceMul, Nat.reduceSub, Nat.reducePow, Nat.reduceLeDiff, Int.reduceToNat, DD, x_app, x_ga0, x_gas, x_gan, Int.cast_ofNat_Int, eq_self, Int.zero_lt_one, Bool.not_false, Bool.not_true, beq_self_eq_true, hP1, hP2, c1, c2, c3, c4, c5, c6, c7, c8, c9, c10, hL1, hL2, t1, t2, t3, t4, s3, s4, s5, s6, ga, gb, ga1, gb1, x_tmod2, d1]
  · rw [decide_eq_false hf] at fw
    simp -implicitDefEqProofs only [go_sem, Nat.reduceAdd, Nat.reduceEqDiff, Nat.reduceLT, reduceIte, reduceCtorEq, Int.reduceLE, Int.reduceLT, Int.reduceEq, Int.reduceAdd, Int.reduceMul, Int.reduceSub, Nat.reduceMul, Nat.reduceSub, Nat.reducePow, Nat.reduceLeDiff, Int.reduceToNat, Tryd.f7, DD, x_app, x_ga0, x_gas, x_gan, Int.cast_ofNat_Int, eq_self, Int.zero_lt_one, Bool.not_false, Bool.not_true, beq_self_eq_true]
    refine callK_pl annuluslaw13_known.call (kn) (pl0) ?_
    simp -implicitDefEqProofs only [go_sem, Nat.reduceAdd, Nat.reduceEqDiff, Nat.reduceLT, reduceIte, reduceCtorEq, Int.reduceLE, Int.reduceLT, Int.reduceEq, Int.reduceAdd, Int.reduceMul, Int.reduceSub, Nat.reduceMul, Nat.reduceSub, Nat.reducePow, Nat.reduceLeDiff, Int.reduceToNat, DD, x_app, x_ga0, x_gas, x_gan, Int.cast_ofNat_Int, eq_self, Int.zero_lt_one, Bool.not_false, Bool.not_true, beq_self_eq_true]
    refine callK_pl annuluslaw13_few.call (fw) (pl1 (pld_q n F)) ?_
    simp -implicitDefEqProofs only [go_sem, Nat.reduceAdd, Nat.reduceEqDiff, Nat.reduceLT, reduceIte, reduceCtorEq, Int.reduceLE, Int.reduceLT, Int.reduceEq, Int.reduceAdd, Int.reduceMul, Int.reduceSub, Nat.reduceMul, Nat.reduceSub, Nat.reducePow, Nat.reduceLeDiff, Int.reduceToNat, DD, x_app, x_ga0, x_gas, x_gan, Int.cast_ofNat_Int, eq_self, Int.zero_lt_one, Bool.not_false, Bool.not_true, beq_self_eq_true]
end Go.Ab

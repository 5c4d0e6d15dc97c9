/- Contracts of this seat's functions (of each call: what it answers), walked over the abstract machine, and the laws of numbers that they want. Conditions: those that each theorem states. -/
import Derived.Test.YtikhbokeaikcpaaDoorFG
import Derived.Test.YtikhbokeaikcpaaDoorD12
set_option linter.unusedVariables false
set_option maxRecDepth 20000
set_option linter.unusedSimpArgs false
set_option linter.unusedSectionVars false
namespace Go.Ab
open Go.Proofs
open Cx (zero one)
attribute [-go_sem] appF newsF
/-! the law of floats, of every two -/
theorem eq0_y : Sat CT false 12 [CI zero, CI zero] (Bo true) := requal8 (CB.zero 0) (by decide)
theorem bne_of {a : Nat} (h : fNaN a = false) : (FloatKind.f64.format.order a a == some .eq) = true := by
  have h2 : (FloatKind.f64.format.order a a != some .eq) = false := h
  simpa [bne] using h2
theorem exact_bad {s : Bool} {E M : Nat} (hE : E = 2047) (hM : M < 4503599627370496) : Sat CT false 38 [F64 (fw s E M)] (.tup [.agg [Bo false, .v (.slice none 0 0), I64 0], Bo false]) := by
  have ha := fw_abs (s := s) (E := E) (by omega) hM
  have hi := ord_inf (E := E) (by omega) hM
  have hn := ord_self (s := s) (E := E) (by omega) hM
  by_cases h : M = 0
  · rw [decide_eq_true ⟨hE, h⟩] at hi
    exact gexact_i ha hi
  · rw [decide_eq_false (fun q => h q.2)] at hi
    rw [decide_eq_true ⟨hE, h⟩] at hn
    exact gexact_n ha hi hn
set_option maxHeartbeats 1000000 in
theorem gf_fin_fin {s1 s2 : Bool} {E1 E2 M1 M2 : Nat} (hE1 : E1 < 2047) (hE2 : E2 < 2047) (hM1 : M1 < 4503599627370496) (hM2 : M2 < 4503599627370496) : Sat CT false 3 [.v (.int .u64 (fw s1 E1 M1 : Nat)), .v (.int .u64 (fw s2 E2 M2 : Nat))] (Bo true) := by
  refine sat_of annuluslaw8_GaussFloats.ok (by simp) ?_
  have DD := annuluslaw8_GaussFloats.dr
  simp only [drP, drPx, drPt, drR, drS, drT, bodyOf, Tryd.f3, Nat.reduceEqDiff, reduceIte, true_and, and_true] at DD
  have k0 := known8_s
  have ai1 := isinf_s (fw_abs (s := s1) (E := E1) (by omega) hM1)
  rw [ord_inf (by omega) hM1, decide_eq_false (by omega)] at ai1
  have an1 := isnan_s (fw s1 E1 M1)
  rw [ord_self (by omega) hM1, decide_eq_false (by omega)] at an1
  have ex1 := exact_fw (s := s1) hE1 hM1
  have ai2 := isinf_s (fw_abs (s := s2) (E := E2) (by omega) hM2)
  rw [ord_inf (by omega) hM2, decide_eq_false (by omega)] at ai2
  have an2 := isnan_s (fw s2 E2 M2)
  rw [ord_self (by omega) hM2, decide_eq_false (by omega)] at an2
  have ex2 := exact_fw (s := s2) hE2 hM2
  have xx := gExact_s ex1 ex2
  have d1 := fv_db (s := s1) hE1 hM1
  have d2 := fv_db (s := s2) hE2 hM2
  have g1 := bits8_s (s := s1) hE1 hM1
  have g2 := bits8_s (s := s2) hE2 hM2
  have q1 := requal4d d1 d1 (by decide) (by decide)
  have q2 := requal4d d2 d2 (by decide) (by decide)
  rw [decide_eq_true rfl] at q1 q2
  have p1 := plain8_s d1
  have p2 := plain8_s d2
  obtain ⟨r1, f1, n1, o1⟩ := float_fw (s := s1) hE1 hM1
  obtain ⟨r2, f2, n2, o2⟩ := float_fw (s := s2) hE2 hM2
  have ff := gFloat_s (z := ⟨fv s1 E1 M1, fv s2 E2 M2⟩) f1 f2
  have b1 := bne_of n1
  have b2 := bne_of n2
  generalize hx1 : fv s1 E1 M1 = x1 at *
  generalize hx2 : fv s2 E2 M2 = x2 at *
  simp -implicitDefEqProofs only [go_sem, simprocAttr, -Int.reducePow, Tryd.f3, DD, x_app, x_ga0, x_gas, x_gan, Int.cast_ofNat_Int, eq_self, Int.zero_lt_one, Bool.not_false, Bool.not_true, beq_self_eq_true]
  refine callK_q annuluslaw8_known.call (k0) rfl rfl ?_
  simp -implicitDefEqProofs only [go_sem, simprocAttr, -Int.reducePow, DD, x_app, x_ga0, x_gas, x_gan, Int.cast_ofNat_Int, eq_self, Int.zero_lt_one, Bool.not_false, Bool.not_true, beq_self_eq_true, WI, IA, DI, DA, CI, Int.toNat_natCast, List.take_succ_cons, List.drop_succ_cons]
  refine callK_ext (ext_from _) ?_
  simp -implicitDefEqProofs only [go_sem, simprocAttr, -Int.reducePow, DD, x_app, x_ga0, x_gas, x_gan, Int.cast_ofNat_Int, eq_self, Int.zero_lt_one, Bool.not_false, Bool.not_true, beq_self_eq_true, WI, IA, DI, DA, CI, Int.toNat_natCast, List.take_succ_cons, List.drop_succ_cons]
  refine callK_ext (ext_from _) ?_
  simp -implicitDefEqProofs only [go_sem, simprocAttr, -Int.reducePow, DD, x_app, x_ga0, x_gas, x_gan, Int.cast_ofNat_Int, eq_self, Int.zero_lt_one, Bool.not_false, Bool.not_true, beq_self_eq_true, WI, IA, DI, DA, CI, Int.toNat_natCast, List.take_succ_cons, List.drop_succ_cons]
  refine callK_q gauss_Exact.call (xx) rfl rfl ?_
  simp -implicitDefEqProofs only [go_sem, simprocAttr, -Int.reducePow, DD, x_app, x_ga0, x_gas, x_gan, Int.cast_ofNat_Int, eq_self, Int.zero_lt_one, Bool.not_false, Bool.not_true, beq_self_eq_true, WI, IA, DI, DA, CI, Int.toNat_natCast, List.take_succ_cons, List.drop_succ_cons]
  refine callK_q math_IsInf.call (ai1) rfl rfl ?_
  simp -implicitDefEqProofs only [go_sem, simprocAttr, -Int.reducePow, DD, x_app, x_ga0, x_gas, x_gan, Int.cast_ofNat_Int, eq_self, Int.zero_lt_one, Bool.not_false, Bool.not_true, beq_self_eq_true, WI, IA, DI, DA, CI, Int.toNat_natCast, List.take_succ_cons, List.drop_succ_cons]
  refine callK_q math_IsNaN.call (an1) rfl rfl ?_
  simp -implicitDefEqProofs only [go_sem, simprocAttr, -Int.reducePow, DD, x_app, x_ga0, x_gas, x_gan, Int.cast_ofNat_Int, eq_self, Int.zero_lt_one, Bool.not_false, Bool.not_true, beq_self_eq_true, WI, IA, DI, DA, CI, Int.toNat_natCast, List.take_succ_cons, List.drop_succ_cons]
  refine callK_q math_IsInf.call (ai2) rfl rfl ?_
  simp -implicitDefEqProofs only [go_sem, simprocAttr, -Int.reducePow, DD, x_app, x_ga0, x_gas, x_gan, Int.cast_ofNat_Int, eq_self, Int.zero_lt_one, Bool.not_false, Bool.not_true, beq_self_eq_true, WI, IA, DI, DA, CI, Int.toNat_natCast, List.take_succ_cons, List.drop_succ_cons]
  refine callK_q math_IsNaN.call (an2) rfl rfl ?_
  simp -implicitDefEqProofs only [go_sem, simprocAttr, -Int.reducePow, DD, x_app, x_ga0, x_gas, x_gan, Int.cast_ofNat_Int, eq_self, Int.zero_lt_one, Bool.not_false, Bool.not_true, beq_self_eq_true, WI, IA, DI, DA, CI, Int.toNat_natCast, List.take_succ_cons, List.drop_succ_cons]
  refine callK_q annuluslaw8_bits.call (g1) rfl rfl ?_
  simp -implicitDefEqProofs only [go_sem, simprocAttr, -Int.reducePow, DD, x_app, x_ga0, x_gas, x_gan, Int.cast_ofNat_Int, eq_self, Int.zero_lt_one, Bool.not_false, Bool.not_true, beq_self_eq_true, WI, IA, DI, DA, CI, Int.toNat_natCast, List.take_succ_cons, List.drop_succ_cons]
  refine callK_q annulusref4_Equal.call (q1) rfl rfl ?_
  simp -implicitDefEqProofs only [go_sem, simprocAttr, -Int.reducePow, DD, x_app, x_ga0, x_gas, x_gan, Int.cast_ofNat_Int, eq_self, Int.zero_lt_one, Bool.not_false, Bool.not_true, beq_self_eq_true, WI, IA, DI, DA, CI, Int.toNat_natCast, List.take_succ_cons, List.drop_succ_cons]
  refine callK_q annuluslaw8_bits.call (g2) rfl rfl ?_
  simp -implicitDefEqProofs only [go_sem, simprocAttr, -Int.reducePow, DD, x_app, x_ga0, x_gas, x_gan, Int.cast_ofNat_Int, eq_self, Int.zero_lt_one, Bool.not_false, Bool.not_true, beq_self_eq_true, WI, IA, DI, DA, CI, Int.toNat_natCast, List.take_succ_cons, List.drop_succ_cons]
  refine callK_q annulusref4_Equal.call (q2) rfl rfl ?_
  simp -implicitDefEqProofs only [go_sem, simprocAttr, -Int.reducePow, DD, x_app, x_ga0, x_gas, x_gan, Int.cast_ofNat_Int, eq_self, Int.zero_lt_one, Bool.not_false, Bool.not_true, beq_self_eq_true, WI, IA, DI, DA, CI, Int.toNat_natCast, List.take_succ_cons, List.drop_succ_cons]
  refine callK_q gauss_Float.call (ff) rfl rfl ?_
  simp -implicitDefEqProofs only [go_sem, simprocAttr, -Int.reducePow, DD, x_app, x_ga0, x_gas, x_gan, Int.cast_ofNat_Int, eq_self, Int.zero_lt_one, Bool.not_false, Bool.not_true, beq_self_eq_true, WI, IA, DI, DA, CI, Int.toNat_natCast, List.take_succ_cons, List.drop_succ_cons]
  by_cases c1 : -1000 ≤ dtop x1 ∧ dtop x1 ≤ 1000
  · rw [decide_eq_true c1] at p1
    by_cases c2 : -1000 ≤ dtop x2 ∧ dtop x2 ≤ 1000
    · rw [decide_eq_true c2] at p2
      refine callK_q annuluslaw8_plain.call (p1) rfl rfl ?_
      simp -implicitDefEqProofs only [go_sem, simprocAttr, -Int.reducePow, DD, x_app, x_ga0, x_gas, x_gan, Int.cast_ofNat_Int, eq_self, Int.zero_lt_one, Bool.not_false, Bool.not_true, beq_self_eq_true, WI, IA, DI, DA, CI, o1 c1.1, o2 c2.1, List.take_succ_cons, List.drop_succ_cons]
      refine callK_q annuluslaw8_plain.call (p2) rfl rfl ?_
      simp -implicitDefEqProofs only [go_sem, simprocAttr, -Int.reducePow, DD, x_app, x_ga0, x_gas, x_gan, Int.cast_ofNat_Int, eq_self, Int.zero_lt_one, Bool.not_false, Bool.not_true, beq_self_eq_true, WI, IA, DI, DA, CI, o1 c1.1, o2 c2.1, List.take_succ_cons, List.drop_succ_cons]
    · rw [decide_eq_false c2] at p2
      refine callK_q annuluslaw8_plain.call (p1) rfl rfl ?_
      simp -implicitDefEqProofs only [go_sem, simprocAttr, -Int.reducePow, DD, x_app, x_ga0, x_gas, x_gan, Int.cast_ofNat_Int, eq_self, Int.zero_lt_one, Bool.not_false, Bool.not_true, beq_self_eq_true, WI, IA, DI, DA, CI, b1, b2, List.take_succ_cons, List.drop_succ_cons]
      refine callK_q annuluslaw8_plain.call (p2) rfl rfl ?_
      simp -implicitDefEqProofs only [go_sem, simprocAttr, -Int.reducePow, DD, x_app, x_ga0, x_gas, x_gan, Int.cast_ofNat_Int, eq_self, Int.zero_lt_one, Bool.not_false, Bool.not_true, beq_self_eq_true, WI, IA, DI, DA, CI, b1, b2, List.take_succ_cons, List.drop_succ_cons]
  · rw [decide_eq_false c1] at p1
    refine callK_q annuluslaw8_plain.call (p1) rfl rfl ?_
    simp -implicitDefEqProofs only [go_sem, simprocAttr, -Int.reducePow, DD, x_app, x_ga0, x_gas, x_gan, Int.cast_ofNat_Int, eq_self, Int.zero_lt_one, Bool.not_false, Bool.not_true, beq_self_eq_true, WI, IA, DI, DA, CI, b1, b2, List.take_succ_cons, List.drop_succ_cons]
set_option maxHeartbeats 1000000 in
theorem gf_fin_inf {s1 s2 : Bool} {E1 E2 M1 M2 : Nat} (hE1 : E1 < 2047) (hE2 : E2 = 2047) (h02 : M2 = 0) (hM1 : M1 < 4503599627370496) (hM2 : M2 < 4503599627370496) : Sat CT false 3 [.v (.int .u64 (fw s1 E1 M1 : Nat)), .v (.int .u64 (fw s2 E2 M2 : Nat))] (Bo true) := by
  refine sat_of annuluslaw8_GaussFloats.ok (by simp) ?_
  have DD := annuluslaw8_GaussFloats.dr
  simp only [drP, drPx, drPt, drR, drS, drT, bodyOf, Tryd.f3, Nat.reduceEqDiff, reduceIte, true_and, and_true] at DD
  have k0 := known8_s
  have ai1 := isinf_s (fw_abs (s := s1) (E := E1) (by omega) hM1)
  rw [ord_inf (by omega) hM1, decide_eq_false (by omega)] at ai1
  have an1 := isnan_s (fw s1 E1 M1)
  rw [ord_self (by omega) hM1, decide_eq_false (by omega)] at an1
  have ex1 := exact_fw (s := s1) hE1 hM1
  have ai2 := isinf_s (fw_abs (s := s2) (E := E2) (by omega) hM2)
  rw [ord_inf (by omega) hM2, decide_eq_true ⟨hE2, h02⟩] at ai2
  have an2 := isnan_s (fw s2 E2 M2)
  rw [ord_self (by omega) hM2, decide_eq_false (fun q => q.2 h02)] at an2
  have ex2 := exact_bad (s := s2) hE2 hM2
  have xx := gExact_m ex1 ex2
  simp -implicitDefEqProofs only [go_sem, simprocAttr, -Int.reducePow, Tryd.f3, DD, x_app, x_ga0, x_gas, x_gan, Int.cast_ofNat_Int, eq_self, Int.zero_lt_one, Bool.not_false, Bool.not_true, beq_self_eq_true]
  refine callK_q annuluslaw8_known.call (k0) rfl rfl ?_
  simp -implicitDefEqProofs only [go_sem, simprocAttr, -Int.reducePow, DD, x_app, x_ga0, x_gas, x_gan, Int.cast_ofNat_Int, eq_self, Int.zero_lt_one, Bool.not_false, Bool.not_true, beq_self_eq_true, Int.toNat_natCast, zc6, List.take_succ_cons, List.drop_succ_cons]
  refine callK_ext (ext_from _) ?_
  simp -implicitDefEqProofs only [go_sem, simprocAttr, -Int.reducePow, DD, x_app, x_ga0, x_gas, x_gan, Int.cast_ofNat_Int, eq_self, Int.zero_lt_one, Bool.not_false, Bool.not_true, beq_self_eq_true, Int.toNat_natCast, zc6, List.take_succ_cons, List.drop_succ_cons]
  refine callK_ext (ext_from _) ?_
  simp -implicitDefEqProofs only [go_sem, simprocAttr, -Int.reducePow, DD, x_app, x_ga0, x_gas, x_gan, Int.cast_ofNat_Int, eq_self, Int.zero_lt_one, Bool.not_false, Bool.not_true, beq_self_eq_true, Int.toNat_natCast, zc6, List.take_succ_cons, List.drop_succ_cons]
  refine callK_q gauss_Exact.call (xx) rfl rfl ?_
  simp -implicitDefEqProofs only [go_sem, simprocAttr, -Int.reducePow, DD, x_app, x_ga0, x_gas, x_gan, Int.cast_ofNat_Int, eq_self, Int.zero_lt_one, Bool.not_false, Bool.not_true, beq_self_eq_true, Int.toNat_natCast, zc6, List.take_succ_cons, List.drop_succ_cons]
  refine callK_q math_IsInf.call (ai1) rfl rfl ?_
  simp -implicitDefEqProofs only [go_sem, simprocAttr, -Int.reducePow, DD, x_app, x_ga0, x_gas, x_gan, Int.cast_ofNat_Int, eq_self, Int.zero_lt_one, Bool.not_false, Bool.not_true, beq_self_eq_true, Int.toNat_natCast, zc6, List.take_succ_cons, List.drop_succ_cons]
  refine callK_q math_IsNaN.call (an1) rfl rfl ?_
  simp -implicitDefEqProofs only [go_sem, simprocAttr, -Int.reducePow, DD, x_app, x_ga0, x_gas, x_gan, Int.cast_ofNat_Int, eq_self, Int.zero_lt_one, Bool.not_false, Bool.not_true, beq_self_eq_true, Int.toNat_natCast, zc6, List.take_succ_cons, List.drop_succ_cons]
  refine callK_q math_IsInf.call (ai2) rfl rfl ?_
  simp -implicitDefEqProofs only [go_sem, simprocAttr, -Int.reducePow, DD, x_app, x_ga0, x_gas, x_gan, Int.cast_ofNat_Int, eq_self, Int.zero_lt_one, Bool.not_false, Bool.not_true, beq_self_eq_true, Int.toNat_natCast, zc6, List.take_succ_cons, List.drop_succ_cons]
  refine callK_pr annulusref8_Equal.call eq0_y (.cons (Blk.plr (.inr ⟨rfl, rfl⟩)) (.cons (Blk.plr (.inr ⟨rfl, rfl⟩)) .nil)) ?_
  simp -implicitDefEqProofs only [go_sem, simprocAttr, -Int.reducePow, DD, x_app, x_ga0, x_gas, x_gan, Int.cast_ofNat_Int, eq_self, Int.zero_lt_one, Bool.not_false, Bool.not_true, beq_self_eq_true, Int.toNat_natCast, zc6, List.take_succ_cons, List.drop_succ_cons]
set_option maxHeartbeats 1000000 in
theorem gf_fin_nan {s1 s2 : Bool} {E1 E2 M1 M2 : Nat} (hE1 : E1 < 2047) (hE2 : E2 = 2047) (h02 : M2 ≠ 0) (hM1 : M1 < 4503599627370496) (hM2 : M2 < 4503599627370496) : Sat CT false 3 [.v (.int .u64 (fw s1 E1 M1 : Nat)), .v (.int .u64 (fw s2 E2 M2 : Nat))] (Bo true) := by
  refine sat_of annuluslaw8_GaussFloats.ok (by simp) ?_
  have DD := annuluslaw8_GaussFloats.dr
  simp only [drP, drPx, drPt, drR, drS, drT, bodyOf, Tryd.f3, Nat.reduceEqDiff, reduceIte, true_and, and_true] at DD
  have k0 := known8_s
  have ai1 := isinf_s (fw_abs (s := s1) (E := E1) (by omega) hM1)
  rw [ord_inf (by omega) hM1, decide_eq_false (by omega)] at ai1
  have an1 := isnan_s (fw s1 E1 M1)
  rw [ord_self (by omega) hM1, decide_eq_false (by omega)] at an1
  have ex1 := exact_fw (s := s1) hE1 hM1
  have ai2 := isinf_s (fw_abs (s := s2) (E := E2) (by omega) hM2)
  rw [ord_inf (by omega) hM2, decide_eq_false (fun q => h02 q.2)] at ai2
  have an2 := isnan_s (fw s2 E2 M2)
  rw [ord_self (by omega) hM2, decide_eq_true ⟨hE2, h02⟩] at an2
  have ex2 := exact_bad (s := s2) hE2 hM2
  have xx := gExact_m ex1 ex2
  simp -implicitDefEqProofs only [go_sem, simprocAttr, -Int.reducePow, Tryd.f3, DD, x_app, x_ga0, x_gas, x_gan, Int.cast_ofNat_Int, eq_self, Int.zero_lt_one, Bool.not_false, Bool.not_true, beq_self_eq_true]
  refine callK_q annuluslaw8_known.call (k0) rfl rfl ?_
  simp -implicitDefEqProofs only [go_sem, simprocAttr, -Int.reducePow, DD, x_app, x_ga0, x_gas, x_gan, Int.cast_ofNat_Int, eq_self, Int.zero_lt_one, Bool.not_false, Bool.not_true, beq_self_eq_true, Int.toNat_natCast, zc6, List.take_succ_cons, List.drop_succ_cons]
  refine callK_ext (ext_from _) ?_
  simp -implicitDefEqProofs only [go_sem, simprocAttr, -Int.reducePow, DD, x_app, x_ga0, x_gas, x_gan, Int.cast_ofNat_Int, eq_self, Int.zero_lt_one, Bool.not_false, Bool.not_true, beq_self_eq_true, Int.toNat_natCast, zc6, List.take_succ_cons, List.drop_succ_cons]
  refine callK_ext (ext_from _) ?_
  simp -implicitDefEqProofs only [go_sem, simprocAttr, -Int.reducePow, DD, x_app, x_ga0, x_gas, x_gan, Int.cast_ofNat_Int, eq_self, Int.zero_lt_one, Bool.not_false, Bool.not_true, beq_self_eq_true, Int.toNat_natCast, zc6, List.take_succ_cons, List.drop_succ_cons]
  refine callK_q gauss_Exact.call (xx) rfl rfl ?_
  simp -implicitDefEqProofs only [go_sem, simprocAttr, -Int.reducePow, DD, x_app, x_ga0, x_gas, x_gan, Int.cast_ofNat_Int, eq_self, Int.zero_lt_one, Bool.not_false, Bool.not_true, beq_self_eq_true, Int.toNat_natCast, zc6, List.take_succ_cons, List.drop_succ_cons]
  refine callK_q math_IsInf.call (ai1) rfl rfl ?_
  simp -implicitDefEqProofs only [go_sem, simprocAttr, -Int.reducePow, DD, x_app, x_ga0, x_gas, x_gan, Int.cast_ofNat_Int, eq_self, Int.zero_lt_one, Bool.not_false, Bool.not_true, beq_self_eq_true, Int.toNat_natCast, zc6, List.take_succ_cons, List.drop_succ_cons]
  refine callK_q math_IsNaN.call (an1) rfl rfl ?_
  simp -implicitDefEqProofs only [go_sem, simprocAttr, -Int.reducePow, DD, x_app, x_ga0, x_gas, x_gan, Int.cast_ofNat_Int, eq_self, Int.zero_lt_one, Bool.not_false, Bool.not_true, beq_self_eq_true, Int.toNat_natCast, zc6, List.take_succ_cons, List.drop_succ_cons]
  refine callK_q math_IsInf.call (ai2) rfl rfl ?_
  simp -implicitDefEqProofs only [go_sem, simprocAttr, -Int.reducePow, DD, x_app, x_ga0, x_gas, x_gan, Int.cast_ofNat_Int, eq_self, Int.zero_lt_one, Bool.not_false, Bool.not_true, beq_self_eq_true, Int.toNat_natCast, zc6, List.take_succ_cons, List.drop_succ_cons]
  refine callK_q math_IsNaN.call (an2) rfl rfl ?_
  simp -implicitDefEqProofs only [go_sem, simprocAttr, -Int.reducePow, DD, x_app, x_ga0, x_gas, x_gan, Int.cast_ofNat_Int, eq_self, Int.zero_lt_one, Bool.not_false, Bool.not_true, beq_self_eq_true, Int.toNat_natCast, zc6, List.take_succ_cons, List.drop_succ_cons]
  refine callK_pr annulusref8_Equal.call eq0_y (.cons (Blk.plr (.inr ⟨rfl, rfl⟩)) (.cons (Blk.plr (.inr ⟨rfl, rfl⟩)) .nil)) ?_
  simp -implicitDefEqProofs only [go_sem, simprocAttr, -Int.reducePow, DD, x_app, x_ga0, x_gas, x_gan, Int.cast_ofNat_Int, eq_self, Int.zero_lt_one, Bool.not_false, Bool.not_true, beq_self_eq_true, Int.toNat_natCast, zc6, List.take_succ_cons, List.drop_succ_cons]
set_option maxHeartbeats 1000000 in
theorem gf_inf_fin {s1 s2 : Bool} {E1 E2 M1 M2 : Nat} (hE1 : E1 = 2047) (h01 : M1 = 0) (hE2 : E2 < 2047) (hM1 : M1 < 4503599627370496) (hM2 : M2 < 4503599627370496) : Sat CT false 3 [.v (.int .u64 (fw s1 E1 M1 : Nat)), .v (.int .u64 (fw s2 E2 M2 : Nat))] (Bo true) := by
  refine sat_of annuluslaw8_GaussFloats.ok (by simp) ?_
  have DD := annuluslaw8_GaussFloats.dr
  simp only [drP, drPx, drPt, drR, drS, drT, bodyOf, Tryd.f3, Nat.reduceEqDiff, reduceIte, true_and, and_true] at DD
  have k0 := known8_s
  have ai1 := isinf_s (fw_abs (s := s1) (E := E1) (by omega) hM1)
  rw [ord_inf (by omega) hM1, decide_eq_true ⟨hE1, h01⟩] at ai1
  have an1 := isnan_s (fw s1 E1 M1)
  rw [ord_self (by omega) hM1, decide_eq_false (fun q => q.2 h01)] at an1
  have ex1 := exact_bad (s := s1) hE1 hM1
  have ai2 := isinf_s (fw_abs (s := s2) (E := E2) (by omega) hM2)
  rw [ord_inf (by omega) hM2, decide_eq_false (by omega)] at ai2
  have an2 := isnan_s (fw s2 E2 M2)
  rw [ord_self (by omega) hM2, decide_eq_false (by omega)] at an2
  have ex2 := exact_fw (s := s2) hE2 hM2
  have xx := gExact_n ex1 ex2
  simp -implicitDefEqProofs only [go_sem, simprocAttr, -Int.reducePow, Tryd.f3, DD, x_app, x_ga0, x_gas, x_gan, Int.cast_ofNat_Int, eq_self, Int.zero_lt_one, Bool.not_false, Bool.not_true, beq_self_eq_true]
  refine callK_q annuluslaw8_known.call (k0) rfl rfl ?_
  simp -implicitDefEqProofs only [go_sem, simprocAttr, -Int.reducePow, DD, x_app, x_ga0, x_gas, x_gan, Int.cast_ofNat_Int, eq_self, Int.zero_lt_one, Bool.not_false, Bool.not_true, beq_self_eq_true, Int.toNat_natCast, zc6, List.take_succ_cons, List.drop_succ_cons]
  refine callK_ext (ext_from _) ?_
  simp -implicitDefEqProofs only [go_sem, simprocAttr, -Int.reducePow, DD, x_app, x_ga0, x_gas, x_gan, Int.cast_ofNat_Int, eq_self, Int.zero_lt_one, Bool.not_false, Bool.not_true, beq_self_eq_true, Int.toNat_natCast, zc6, List.take_succ_cons, List.drop_succ_cons]
  refine callK_ext (ext_from _) ?_
  simp -implicitDefEqProofs only [go_sem, simprocAttr, -Int.reducePow, DD, x_app, x_ga0, x_gas, x_gan, Int.cast_ofNat_Int, eq_self, Int.zero_lt_one, Bool.not_false, Bool.not_true, beq_self_eq_true, Int.toNat_natCast, zc6, List.take_succ_cons, List.drop_succ_cons]
  refine callK_q gauss_Exact.call (xx) rfl rfl ?_
  simp -implicitDefEqProofs only [go_sem, simprocAttr, -Int.reducePow, DD, x_app, x_ga0, x_gas, x_gan, Int.cast_ofNat_Int, eq_self, Int.zero_lt_one, Bool.not_false, Bool.not_true, beq_self_eq_true, Int.toNat_natCast, zc6, List.take_succ_cons, List.drop_succ_cons]
  refine callK_q math_IsInf.call (ai1) rfl rfl ?_
  simp -implicitDefEqProofs only [go_sem, simprocAttr, -Int.reducePow, DD, x_app, x_ga0, x_gas, x_gan, Int.cast_ofNat_Int, eq_self, Int.zero_lt_one, Bool.not_false, Bool.not_true, beq_self_eq_true, Int.toNat_natCast, zc6, List.take_succ_cons, List.drop_succ_cons]
  refine callK_pr annulusref8_Equal.call eq0_y (.cons (Blk.plr (.inr ⟨rfl, rfl⟩)) (.cons (Blk.plr (.inr ⟨rfl, rfl⟩)) .nil)) ?_
  simp -implicitDefEqProofs only [go_sem, simprocAttr, -Int.reducePow, DD, x_app, x_ga0, x_gas, x_gan, Int.cast_ofNat_Int, eq_self, Int.zero_lt_one, Bool.not_false, Bool.not_true, beq_self_eq_true, Int.toNat_natCast, zc6, List.take_succ_cons, List.drop_succ_cons]
set_option maxHeartbeats 1000000 in
theorem gf_inf_inf {s1 s2 : Bool} {E1 E2 M1 M2 : Nat} (hE1 : E1 = 2047) (h01 : M1 = 0) (hE2 : E2 = 2047) (h02 : M2 = 0) (hM1 : M1 < 4503599627370496) (hM2 : M2 < 4503599627370496) : Sat CT false 3 [.v (.int .u64 (fw s1 E1 M1 : Nat)), .v (.int .u64 (fw s2 E2 M2 : Nat))] (Bo true) := by
  refine sat_of annuluslaw8_GaussFloats.ok (by simp) ?_
  have DD := annuluslaw8_GaussFloats.dr
  simp only [drP, drPx, drPt, drR, drS, drT, bodyOf, Tryd.f3, Nat.reduceEqDiff, reduceIte, true_and, and_true] at DD
  have k0 := known8_s
  have ai1 := isinf_s (fw_abs (s := s1) (E := E1) (by omega) hM1)
  rw [ord_inf (by omega) hM1, decide_eq_true ⟨hE1, h01⟩] at ai1
  have an1 := isnan_s (fw s1 E1 M1)
  rw [ord_self (by omega) hM1, decide_eq_false (fun q => q.2 h01)] at an1
  have ex1 := exact_bad (s := s1) hE1 hM1
  have ai2 := isinf_s (fw_abs (s := s2) (E := E2) (by omega) hM2)
  rw [ord_inf (by omega) hM2, decide_eq_true ⟨hE2, h02⟩] at ai2
  have an2 := isnan_s (fw s2 E2 M2)
  rw [ord_self (by omega) hM2, decide_eq_false (fun q => q.2 h02)] at an2
  have ex2 := exact_bad (s := s2) hE2 hM2
  have xx := gExact_b ex1 ex2
  simp -implicitDefEqProofs only [go_sem, simprocAttr, -Int.reducePow, Tryd.f3, DD, x_app, x_ga0, x_gas, x_gan, Int.cast_ofNat_Int, eq_self, Int.zero_lt_one, Bool.not_false, Bool.not_true, beq_self_eq_true]
  refine callK_q annuluslaw8_known.call (k0) rfl rfl ?_
  simp -implicitDefEqProofs only [go_sem, simprocAttr, -Int.reducePow, DD, x_app, x_ga0, x_gas, x_gan, Int.cast_ofNat_Int, eq_self, Int.zero_lt_one, Bool.not_false, Bool.not_true, beq_self_eq_true, Int.toNat_natCast, zc6, List.take_succ_cons, List.drop_succ_cons]
  refine callK_ext (ext_from _) ?_
  simp -implicitDefEqProofs only [go_sem, simprocAttr, -Int.reducePow, DD, x_app, x_ga0, x_gas, x_gan, Int.cast_ofNat_Int, eq_self, Int.zero_lt_one, Bool.not_false, Bool.not_true, beq_self_eq_true, Int.toNat_natCast, zc6, List.take_succ_cons, List.drop_succ_cons]
  refine callK_ext (ext_from _) ?_
  simp -implicitDefEqProofs only [go_sem, simprocAttr, -Int.reducePow, DD, x_app, x_ga0, x_gas, x_gan, Int.cast_ofNat_Int, eq_self, Int.zero_lt_one, Bool.not_false, Bool.not_true, beq_self_eq_true, Int.toNat_natCast, zc6, List.take_succ_cons, List.drop_succ_cons]
  refine callK_q gauss_Exact.call (xx) rfl rfl ?_
  simp -implicitDefEqProofs only [go_sem, simprocAttr, -Int.reducePow, DD, x_app, x_ga0, x_gas, x_gan, Int.cast_ofNat_Int, eq_self, Int.zero_lt_one, Bool.not_false, Bool.not_true, beq_self_eq_true, Int.toNat_natCast, zc6, List.take_succ_cons, List.drop_succ_cons]
  refine callK_q math_IsInf.call (ai1) rfl rfl ?_
  simp -implicitDefEqProofs only [go_sem, simprocAttr, -Int.reducePow, DD, x_app, x_ga0, x_gas, x_gan, Int.cast_ofNat_Int, eq_self, Int.zero_lt_one, Bool.not_false, Bool.not_true, beq_self_eq_true, Int.toNat_natCast, zc6, List.take_succ_cons, List.drop_succ_cons]
  refine callK_pr annulusref8_Equal.call eq0_y (.cons (Blk.plr (.inr ⟨rfl, rfl⟩)) (.cons (Blk.plr (.inr ⟨rfl, rfl⟩)) .nil)) ?_
  simp -implicitDefEqProofs only [go_sem, simprocAttr, -Int.reducePow, DD, x_app, x_ga0, x_gas, x_gan, Int.cast_ofNat_Int, eq_self, Int.zero_lt_one, Bool.not_false, Bool.not_true, beq_self_eq_true, Int.toNat_natCast, zc6, List.take_succ_cons, List.drop_succ_cons]
set_option maxHeartbeats 1000000 in
theorem gf_inf_nan {s1 s2 : Bool} {E1 E2 M1 M2 : Nat} (hE1 : E1 = 2047) (h01 : M1 = 0) (hE2 : E2 = 2047) (h02 : M2 ≠ 0) (hM1 : M1 < 4503599627370496) (hM2 : M2 < 4503599627370496) : Sat CT false 3 [.v (.int .u64 (fw s1 E1 M1 : Nat)), .v (.int .u64 (fw s2 E2 M2 : Nat))] (Bo true) := by
  refine sat_of annuluslaw8_GaussFloats.ok (by simp) ?_
  have DD := annuluslaw8_GaussFloats.dr
  simp only [drP, drPx, drPt, drR, drS, drT, bodyOf, Tryd.f3, Nat.reduceEqDiff, reduceIte, true_and, and_true] at DD
  have k0 := known8_s
  have ai1 := isinf_s (fw_abs (s := s1) (E := E1) (by omega) hM1)
  rw [ord_inf (by omega) hM1, decide_eq_true ⟨hE1, h01⟩] at ai1
  have an1 := isnan_s (fw s1 E1 M1)
  rw [ord_self (by omega) hM1, decide_eq_false (fun q => q.2 h01)] at an1
  have ex1 := exact_bad (s := s1) hE1 hM1
  have ai2 := isinf_s (fw_abs (s := s2) (E := E2) (by omega) hM2)
  rw [ord_inf (by omega) hM2, decide_eq_false (fun q => h02 q.2)] at ai2
  have an2 := isnan_s (fw s2 E2 M2)
  rw [ord_self (by omega) hM2, decide_eq_true ⟨hE2, h02⟩] at an2
  have ex2 := exact_bad (s := s2) hE2 hM2
  have xx := gExact_b ex1 ex2
  simp -implicitDefEqProofs only [go_sem, simprocAttr, -Int.reducePow, Tryd.f3, DD, x_app, x_ga0, x_gas, x_gan, Int.cast_ofNat_Int, eq_self, Int.zero_lt_one, Bool.not_false, Bool.not_true, beq_self_eq_true]
  refine callK_q annuluslaw8_known.call (k0) rfl rfl ?_
  simp -implicitDefEqProofs only [go_sem, simprocAttr, -Int.reducePow, DD, x_app, x_ga0, x_gas, x_gan, Int.cast_ofNat_Int, eq_self, Int.zero_lt_one, Bool.not_false, Bool.not_true, beq_self_eq_true, Int.toNat_natCast, zc6, List.take_succ_cons, List.drop_succ_cons]
  refine callK_ext (ext_from _) ?_
  simp -implicitDefEqProofs only [go_sem, simprocAttr, -Int.reducePow, DD, x_app, x_ga0, x_gas, x_gan, Int.cast_ofNat_Int, eq_self, Int.zero_lt_one, Bool.not_false, Bool.not_true, beq_self_eq_true, Int.toNat_natCast, zc6, List.take_succ_cons, List.drop_succ_cons]
  refine callK_ext (ext_from _) ?_
  simp -implicitDefEqProofs only [go_sem, simprocAttr, -Int.reducePow, DD, x_app, x_ga0, x_gas, x_gan, Int.cast_ofNat_Int, eq_self, Int.zero_lt_one, Bool.not_false, Bool.not_true, beq_self_eq_true, Int.toNat_natCast, zc6, List.take_succ_cons, List.drop_succ_cons]
  refine callK_q gauss_Exact.call (xx) rfl rfl ?_
  simp -implicitDefEqProofs only [go_sem, simprocAttr, -Int.reducePow, DD, x_app, x_ga0, x_gas, x_gan, Int.cast_ofNat_Int, eq_self, Int.zero_lt_one, Bool.not_false, Bool.not_true, beq_self_eq_true, Int.toNat_natCast, zc6, List.take_succ_cons, List.drop_succ_cons]
  refine callK_q math_IsInf.call (ai1) rfl rfl ?_
  simp -implicitDefEqProofs only [go_sem, simprocAttr, -Int.reducePow, DD, x_app, x_ga0, x_gas, x_gan, Int.cast_ofNat_Int, eq_self, Int.zero_lt_one, Bool.not_false, Bool.not_true, beq_self_eq_true, Int.toNat_natCast, zc6, List.take_succ_cons, List.drop_succ_cons]
  refine callK_pr annulusref8_Equal.call eq0_y (.cons (Blk.plr (.inr ⟨rfl, rfl⟩)) (.cons (Blk.plr (.inr ⟨rfl, rfl⟩)) .nil)) ?_
  simp -implicitDefEqProofs only [go_sem, simprocAttr, -Int.reducePow, DD, x_app, x_ga0, x_gas, x_gan, Int.cast_ofNat_Int, eq_self, Int.zero_lt_one, Bool.not_false, Bool.not_true, beq_self_eq_true, Int.toNat_natCast, zc6, List.take_succ_cons, List.drop_succ_cons]
set_option maxHeartbeats 1000000 in
theorem gf_nan_fin {s1 s2 : Bool} {E1 E2 M1 M2 : Nat} (hE1 : E1 = 2047) (h01 : M1 ≠ 0) (hE2 : E2 < 2047) (hM1 : M1 < 4503599627370496) (hM2 : M2 < 4503599627370496) : Sat CT false 3 [.v (.int .u64 (fw s1 E1 M1 : Nat)), .v (.int .u64 (fw s2 E2 M2 : Nat))] (Bo true) := by
  refine sat_of annuluslaw8_GaussFloats.ok (by simp) ?_
  have DD := annuluslaw8_GaussFloats.dr
  simp only [drP, drPx, drPt, drR, drS, drT, bodyOf, Tryd.f3, Nat.reduceEqDiff, reduceIte, true_and, and_true] at DD
  have k0 := known8_s
  have ai1 := isinf_s (fw_abs (s := s1) (E := E1) (by omega) hM1)
  rw [ord_inf (by omega) hM1, decide_eq_false (fun q => h01 q.2)] at ai1
  have an1 := isnan_s (fw s1 E1 M1)
  rw [ord_self (by omega) hM1, decide_eq_true ⟨hE1, h01⟩] at an1
  have ex1 := exact_bad (s := s1) hE1 hM1
  have ai2 := isinf_s (fw_abs (s := s2) (E := E2) (by omega) hM2)
  rw [ord_inf (by omega) hM2, decide_eq_false (by omega)] at ai2
  have an2 := isnan_s (fw s2 E2 M2)
  rw [ord_self (by omega) hM2, decide_eq_false (by omega)] at an2
  have ex2 := exact_fw (s := s2) hE2 hM2
  have xx := gExact_n ex1 ex2
  simp -implicitDefEqProofs only [go_sem, simprocAttr, -Int.reducePow, Tryd.f3, DD, x_app, x_ga0, x_gas, x_gan, Int.cast_ofNat_Int, eq_self, Int.zero_lt_one, Bool.not_false, Bool.not_true, beq_self_eq_true]
  refine callK_q annuluslaw8_known.call (k0) rfl rfl ?_
  simp -implicitDefEqProofs only [go_sem, simprocAttr, -Int.reducePow, DD, x_app, x_ga0, x_gas, x_gan, Int.cast_ofNat_Int, eq_self, Int.zero_lt_one, Bool.not_false, Bool.not_true, beq_self_eq_true, Int.toNat_natCast, zc6, List.take_succ_cons, List.drop_succ_cons]
  refine callK_ext (ext_from _) ?_
  simp -implicitDefEqProofs only [go_sem, simprocAttr, -Int.reducePow, DD, x_app, x_ga0, x_gas, x_gan, Int.cast_ofNat_Int, eq_self, Int.zero_lt_one, Bool.not_false, Bool.not_true, beq_self_eq_true, Int.toNat_natCast, zc6, List.take_succ_cons, List.drop_succ_cons]
  refine callK_ext (ext_from _) ?_
  simp -implicitDefEqProofs only [go_sem, simprocAttr, -Int.reducePow, DD, x_app, x_ga0, x_gas, x_gan, Int.cast_ofNat_Int, eq_self, Int.zero_lt_one, Bool.not_false, Bool.not_true, beq_self_eq_true, Int.toNat_natCast, zc6, List.take_succ_cons, List.drop_succ_cons]
  refine callK_q gauss_Exact.call (xx) rfl rfl ?_
  simp -implicitDefEqProofs only [go_sem, simprocAttr, -Int.reducePow, DD, x_app, x_ga0, x_gas, x_gan, Int.cast_ofNat_Int, eq_self, Int.zero_lt_one, Bool.not_false, Bool.not_true, beq_self_eq_true, Int.toNat_natCast, zc6, List.take_succ_cons, List.drop_succ_cons]
  refine callK_q math_IsInf.call (ai1) rfl rfl ?_
  simp -implicitDefEqProofs only [go_sem, simprocAttr, -Int.reducePow, DD, x_app, x_ga0, x_gas, x_gan, Int.cast_ofNat_Int, eq_self, Int.zero_lt_one, Bool.not_false, Bool.not_true, beq_self_eq_true, Int.toNat_natCast, zc6, List.take_succ_cons, List.drop_succ_cons]
  refine callK_q math_IsNaN.call (an1) rfl rfl ?_
  simp -implicitDefEqProofs only [go_sem, simprocAttr, -Int.reducePow, DD, x_app, x_ga0, x_gas, x_gan, Int.cast_ofNat_Int, eq_self, Int.zero_lt_one, Bool.not_false, Bool.not_true, beq_self_eq_true, Int.toNat_natCast, zc6, List.take_succ_cons, List.drop_succ_cons]
  refine callK_pr annulusref8_Equal.call eq0_y (.cons (Blk.plr (.inr ⟨rfl, rfl⟩)) (.cons (Blk.plr (.inr ⟨rfl, rfl⟩)) .nil)) ?_
  simp -implicitDefEqProofs only [go_sem, simprocAttr, -Int.reducePow, DD, x_app, x_ga0, x_gas, x_gan, Int.cast_ofNat_Int, eq_self, Int.zero_lt_one, Bool.not_false, Bool.not_true, beq_self_eq_true, Int.toNat_natCast, zc6, List.take_succ_cons, List.drop_succ_cons]
set_option maxHeartbeats 1000000 in
theorem gf_nan_inf {s1 s2 : Bool} {E1 E2 M1 M2 : Nat} (hE1 : E1 = 2047) (h01 : M1 ≠ 0) (hE2 : E2 = 2047) (h02 : M2 = 0) (hM1 : M1 < 4503599627370496) (hM2 : M2 < 4503599627370496) : Sat CT false 3 [.v (.int .u64 (fw s1 E1 M1 : Nat)), .v (.int .u64 (fw s2 E2 M2 : Nat))] (Bo true) := by
  refine sat_of annuluslaw8_GaussFloats.ok (by simp) ?_
  have DD := annuluslaw8_GaussFloats.dr
  simp only [drP, drPx, drPt, drR, drS, drT, bodyOf, Tryd.f3, Nat.reduceEqDiff, reduceIte, true_and, and_true] at DD
  have k0 := known8_s
  have ai1 := isinf_s (fw_abs (s := s1) (E := E1) (by omega) hM1)
  rw [ord_inf (by omega) hM1, decide_eq_false (fun q => h01 q.2)] at ai1
  have an1 := isnan_s (fw s1 E1 M1)
  rw [ord_self (by omega) hM1, decide_eq_true ⟨hE1, h01⟩] at an1
  have ex1 := exact_bad (s := s1) hE1 hM1
  have ai2 := isinf_s (fw_abs (s := s2) (E := E2) (by omega) hM2)
  rw [ord_inf (by omega) hM2, decide_eq_true ⟨hE2, h02⟩] at ai2
  have an2 := isnan_s (fw s2 E2 M2)
  rw [ord_self (by omega) hM2, decide_eq_false (fun q => q.2 h02)] at an2
  have ex2 := exact_bad (s := s2) hE2 hM2
  have xx := gExact_b ex1 ex2
  simp -implicitDefEqProofs only [go_sem, simprocAttr, -Int.reducePow, Tryd.f3, DD, x_app, x_ga0, x_gas, x_gan, Int.cast_ofNat_Int, eq_self, Int.zero_lt_one, Bool.not_false, Bool.not_true, beq_self_eq_true]
  refine callK_q annuluslaw8_known.call (k0) rfl rfl ?_
  simp -implicitDefEqProofs only [go_sem, simprocAttr, -Int.reducePow, DD, x_app, x_ga0, x_gas, x_gan, Int.cast_ofNat_Int, eq_self, Int.zero_lt_one, Bool.not_false, Bool.not_true, beq_self_eq_true, Int.toNat_natCast, zc6, List.take_succ_cons, List.drop_succ_cons]
  refine callK_ext (ext_from _) ?_
  simp -implicitDefEqProofs only [go_sem, simprocAttr, -Int.reducePow, DD, x_app, x_ga0, x_gas, x_gan, Int.cast_ofNat_Int, eq_self, Int.zero_lt_one, Bool.not_false, Bool.not_true, beq_self_eq_true, Int.toNat_natCast, zc6, List.take_succ_cons, List.drop_succ_cons]
  refine callK_ext (ext_from _) ?_
  simp -implicitDefEqProofs only [go_sem, simprocAttr, -Int.reducePow, DD, x_app, x_ga0, x_gas, x_gan, Int.cast_ofNat_Int, eq_self, Int.zero_lt_one, Bool.not_false, Bool.not_true, beq_self_eq_true, Int.toNat_natCast, zc6, List.take_succ_cons, List.drop_succ_cons]
  refine callK_q gauss_Exact.call (xx) rfl rfl ?_
  simp -implicitDefEqProofs only [go_sem, simprocAttr, -Int.reducePow, DD, x_app, x_ga0, x_gas, x_gan, Int.cast_ofNat_Int, eq_self, Int.zero_lt_one, Bool.not_false, Bool.not_true, beq_self_eq_true, Int.toNat_natCast, zc6, List.take_succ_cons, List.drop_succ_cons]
  refine callK_q math_IsInf.call (ai1) rfl rfl ?_
  simp -implicitDefEqProofs only [go_sem, simprocAttr, -Int.reducePow, DD, x_app, x_ga0, x_gas, x_gan, Int.cast_ofNat_Int, eq_self, Int.zero_lt_one, Bool.not_false, Bool.not_true, beq_self_eq_true, Int.toNat_natCast, zc6, List.take_succ_cons, List.drop_succ_cons]
  refine callK_q math_IsNaN.call (an1) rfl rfl ?_
  simp -implicitDefEqProofs only [go_sem, simprocAttr, -Int.reducePow, DD, x_app, x_ga0, x_gas, x_gan, Int.cast_ofNat_Int, eq_self, Int.zero_lt_one, Bool.not_false, Bool.not_true, beq_self_eq_true, Int.toNat_natCast, zc6, List.take_succ_cons, List.drop_succ_cons]
  refine callK_pr annulusref8_Equal.call eq0_y (.cons (Blk.plr (.inr ⟨rfl, rfl⟩)) (.cons (Blk.plr (.inr ⟨rfl, rfl⟩)) .nil)) ?_
  simp -implicitDefEqProofs only [go_sem, simprocAttr, -Int.reducePow, DD, x_app, x_ga0, x_gas, x_gan, Int.cast_ofNat_Int, eq_self, Int.zero_lt_one, Bool.not_false, Bool.not_true, beq_self_eq_true, Int.toNat_natCast, zc6, List.take_succ_cons, List.drop_succ_cons]
set_option maxHeartbeats 1000000 in
theorem gf_nan_nan {s1 s2 : Bool} {E1 E2 M1 M2 : Nat} (hE1 : E1 = 2047) (h01 : M1 ≠ 0) (hE2 : E2 = 2047) (h02 : M2 ≠ 0) (hM1 : M1 < 4503599627370496) (hM2 : M2 < 4503599627370496) : Sat CT false 3 [.v (.int .u64 (fw s1 E1 M1 : Nat)), .v (.int .u64 (fw s2 E2 M2 : Nat))] (Bo true) := by
  refine sat_of annuluslaw8_GaussFloats.ok (by simp) ?_
  have DD := annuluslaw8_GaussFloats.dr
  simp only [drP, drPx, drPt, drR, drS, drT, bodyOf, Tryd.f3, Nat.reduceEqDiff, reduceIte, true_and, and_true] at DD
  have k0 := known8_s
  have ai1 := isinf_s (fw_abs (s := s1) (E := E1) (by omega) hM1)
  rw [ord_inf (by omega) hM1, decide_eq_false (fun q => h01 q.2)] at ai1
  have an1 := isnan_s (fw s1 E1 M1)
  rw [ord_self (by omega) hM1, decide_eq_true ⟨hE1, h01⟩] at an1
  have ex1 := exact_bad (s := s1) hE1 hM1
  have ai2 := isinf_s (fw_abs (s := s2) (E := E2) (by omega) hM2)
  rw [ord_inf (by omega) hM2, decide_eq_false (fun q => h02 q.2)] at ai2
  have an2 := isnan_s (fw s2 E2 M2)
  rw [ord_self (by omega) hM2, decide_eq_true ⟨hE2, h02⟩] at an2
  have ex2 := exact_bad (s := s2) hE2 hM2
  have xx := gExact_b ex1 ex2
  simp -implicitDefEqProofs only [go_sem, simprocAttr, -Int.reducePow, Tryd.f3, DD, x_app, x_ga0, x_gas, x_gan, Int.cast_ofNat_Int, eq_self, Int.zero_lt_one, Bool.not_false, Bool.not_true, beq_self_eq_true]
  refine callK_q annuluslaw8_known.call (k0) rfl rfl ?_
  simp -implicitDefEqProofs only [go_sem, simprocAttr, -Int.reducePow, DD, x_app, x_ga0, x_gas, x_gan, Int.cast_ofNat_Int, eq_self, Int.zero_lt_one, Bool.not_false, Bool.not_true, beq_self_eq_true, Int.toNat_natCast, zc6, List.take_succ_cons, List.drop_succ_cons]
  refine callK_ext (ext_from _) ?_
  simp -implicitDefEqProofs only [go_sem, simprocAttr, -Int.reducePow, DD, x_app, x_ga0, x_gas, x_gan, Int.cast_ofNat_Int, eq_self, Int.zero_lt_one, Bool.not_false, Bool.not_true, beq_self_eq_true, Int.toNat_natCast, zc6, List.take_succ_cons, List.drop_succ_cons]
  refine callK_ext (ext_from _) ?_
  simp -implicitDefEqProofs only [go_sem, simprocAttr, -Int.reducePow, DD, x_app, x_ga0, x_gas, x_gan, Int.cast_ofNat_Int, eq_self, Int.zero_lt_one, Bool.not_false, Bool.not_true, beq_self_eq_true, Int.toNat_natCast, zc6, List.take_succ_cons, List.drop_succ_cons]
  refine callK_q gauss_Exact.call (xx) rfl rfl ?_
  simp -implicitDefEqProofs only [go_sem, simprocAttr, -Int.reducePow, DD, x_app, x_ga0, x_gas, x_gan, Int.cast_ofNat_Int, eq_self, Int.zero_lt_one, Bool.not_false, Bool.not_true, beq_self_eq_true, Int.toNat_natCast, zc6, List.take_succ_cons, List.drop_succ_cons]
  refine callK_q math_IsInf.call (ai1) rfl rfl ?_
  simp -implicitDefEqProofs only [go_sem, simprocAttr, -Int.reducePow, DD, x_app, x_ga0, x_gas, x_gan, Int.cast_ofNat_Int, eq_self, Int.zero_lt_one, Bool.not_false, Bool.not_true, beq_self_eq_true, Int.toNat_natCast, zc6, List.take_succ_cons, List.drop_succ_cons]
  refine callK_q math_IsNaN.call (an1) rfl rfl ?_
  simp -implicitDefEqProofs only [go_sem, simprocAttr, -Int.reducePow, DD, x_app, x_ga0, x_gas, x_gan, Int.cast_ofNat_Int, eq_self, Int.zero_lt_one, Bool.not_false, Bool.not_true, beq_self_eq_true, Int.toNat_natCast, zc6, List.take_succ_cons, List.drop_succ_cons]
  refine callK_pr annulusref8_Equal.call eq0_y (.cons (Blk.plr (.inr ⟨rfl, rfl⟩)) (.cons (Blk.plr (.inr ⟨rfl, rfl⟩)) .nil)) ?_
  simp -implicitDefEqProofs only [go_sem, simprocAttr, -Int.reducePow, DD, x_app, x_ga0, x_gas, x_gan, Int.cast_ofNat_Int, eq_self, Int.zero_lt_one, Bool.not_false, Bool.not_true, beq_self_eq_true, Int.toNat_natCast, zc6, List.take_succ_cons, List.drop_succ_cons]
theorem gaussFloats_sat (a : Nat) (ha : a < 18446744073709551616) (b : Nat) (hb : b < 18446744073709551616) : Sat CT false 3 [.v (.int .u64 (a : Nat)), .v (.int .u64 (b : Nat))] (Bo true) := by
  obtain ⟨e1, h1, m1⟩ := fw_of a ha
  obtain ⟨e2, h2, m2⟩ := fw_of b hb
  rw [e1, e2]
  generalize a % 9223372036854775808 / 4503599627370496 = E1 at *
  generalize b % 9223372036854775808 / 4503599627370496 = E2 at *
  generalize a % 4503599627370496 = M1 at *
  generalize b % 4503599627370496 = M2 at *
  by_cases c1 : E1 < 2047
  · by_cases c2 : E2 < 2047
    · exact gf_fin_fin c1 c2 m1 m2
    · by_cases z2 : M2 = 0
      · exact gf_fin_inf c1 (by omega) z2 m1 m2
      · exact gf_fin_nan c1 (by omega) z2 m1 m2
  · by_cases z1 : M1 = 0
    · by_cases c2 : E2 < 2047
      · exact gf_inf_fin (by omega) z1 c2 m1 m2
      · by_cases z2 : M2 = 0
        · exact gf_inf_inf (by omega) z1 (by omega) z2 m1 m2
        · exact gf_inf_nan (by omega) z1 (by omega) z2 m1 m2
    · by_cases c2 : E2 < 2047
      · exact gf_nan_fin (by omega) z1 c2 m1 m2
      · by_cases z2 : M2 = 0
        · exact gf_nan_inf (by omega) z1 (by omega) z2 m1 m2
        · exact gf_nan_nan (by omega) z1 (by omega) z2 m1 m2
end Go.Ab

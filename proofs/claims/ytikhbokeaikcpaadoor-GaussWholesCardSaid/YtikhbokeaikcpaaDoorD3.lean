/- Contracts of this seat's functions (of each call: what it answers), walked over the abstract machine, and the laws of numbers that they want. Conditions: those that each theorem states. -/
import Derived.Test.YtikhbokeaikcpaaDoorD2
import Derived.Test.YtikhbokeaikcpaaDoorPP
set_option linter.unusedVariables false
set_option maxRecDepth 20000
set_option linter.unusedSimpArgs false
namespace Go.Ab
open Go.Proofs

open Cx (zero one)
/-- a point as it must be -/
def CI (z : Cx) : AV := .agg [Bo (decide (dnum z.re < 0)), U32 (lim (dnum z.re).natAbs), I64 (dexp z.re), Bo (decide (dnum z.im < 0)), U32 (lim (dnum z.im).natAbs), I64 (dexp z.im)]
/-- reads as a point -/
def RC (a : AV) (z : Cx) (B : Nat) : Prop := ∃ n l e m k f, a = .agg [Bo n, U32 l, I64 e, Bo m, U32 k, I64 f] ∧ RD (DA n l e) z.re B ∧ RD (DA m k f) z.im B
theorem RC_C {z : Cx} {B : Nat} (h : CB z B) : RC (CI z) z B := ⟨_, _, _, _, _, _, rfl, RD_D h.1, RD_D h.2⟩
theorem RC.cb {a : AV} {z : Cx} {B : Nat} (h : RC a z B) : CB z B := by obtain ⟨_, _, _, _, _, _, _, h1, h2⟩ := h; exact ⟨h1.db, h2.db⟩
theorem RC.mono {a : AV} {z : Cx} {B C : Nat} (h : RC a z B) (hC : B ≤ C) : RC a z C := by
  obtain ⟨n, l, e, m, k, f, h0, h1, h2⟩ := h
  exact ⟨n, l, e, m, k, f, h0, h1.mono hC, h2.mono hC⟩
theorem Cx_zero_iff {z : Cx} : z = zero ↔ z.re = 0 ∧ z.im = 0 := ⟨fun h => by rw [h]; exact ⟨rfl, rfl⟩, fun h => Cx.ext' h.1 h.2⟩

variable {a b : AV} {z w : Cx} {B C : Nat}
theorem gneg_r (ha : RC a z B) (hB : B ≤ 20000) : Sat CT false 37 [a] (CI (-z)) := by
  refine sat_of gauss_Neg.ok (by simp) ?_
  have DD := gauss_Neg.dr
  simp only [drP, drPx, drPt, drR, drS, drT, bodyOf, Tryd.f37, Nat.reduceEqDiff, reduceIte, true_and, and_true] at DD
  obtain ⟨n, l, e, m, k, f, rfl, hr, hi⟩ := ha
  have q1 := dneg_r hr hB
  have q2 := dneg_r hi hB
  simp -implicitDefEqProofs only [go_sem, simprocAttr, -Int.reducePow, Tryd.f37, DD, beq_self_eq_true, Bool.not_false, Bool.not_true, WI, IA, DI, DA, CI]
  refine callK_of false dyad_Neg.call (q1) rfl rfl (by simp [ownOK, own1, hd, fzH, fzArgs, fzCells, fz, IA, WI, DI, DA, CI, U32]) (by simp [U32, isD_u32, isD_v, isD_nil, isD_agg, IA, WI, DI, DA, CI]) ?_
  simp -implicitDefEqProofs only [go_sem, simprocAttr, -Int.reducePow, DD, x_app, x_ga0, x_gas, x_gan, Int.cast_ofNat_Int, eq_self, Int.zero_lt_one, Bool.not_false, Bool.not_true, beq_self_eq_true, WI, IA, DI, DA, CI]
  refine callK_of false dyad_Neg.call (q2) rfl rfl (by simp [ownOK, own1, hd, fzH, fzArgs, fzCells, fz, IA, WI, DI, DA, CI, U32]) (by simp [U32, isD_u32, isD_v, isD_nil, isD_agg, IA, WI, DI, DA, CI]) ?_
  simp -implicitDefEqProofs only [go_sem, simprocAttr, -Int.reducePow, DD, x_app, x_ga0, x_gas, x_gan, Int.cast_ofNat_Int, eq_self, Int.zero_lt_one, Bool.not_false, Bool.not_true, beq_self_eq_true, WI, IA, DI, DA, CI]
  rfl
theorem gadd_r (ha : RC a z B) (hb : RC b w C) (hB : B ≤ 20000) (hC : C ≤ 20000) : Sat CT false 22 [a, b] (CI (z + w)) := by
  refine sat_of gauss_Add.ok (by simp) ?_
  have DD := gauss_Add.dr
  simp only [drP, drPx, drPt, drR, drS, drT, bodyOf, Tryd.f22, Nat.reduceEqDiff, reduceIte, true_and, and_true] at DD
  obtain ⟨n, l, e, m, k, f, rfl, hr, hi⟩ := ha
  obtain ⟨n', l', e', m', k', f', rfl, gr, gi⟩ := hb
  have q1 := dadd_r hr gr hB hC
  have q2 := dadd_r hi gi hB hC
  simp -implicitDefEqProofs only [go_sem, simprocAttr, -Int.reducePow, Tryd.f22, DD, beq_self_eq_true, Bool.not_false, Bool.not_true, WI, IA, DI, DA, CI]
  refine callK_of false dyad_Add.call (q1) rfl rfl (by simp [ownOK, own1, hd, fzH, fzArgs, fzCells, fz, IA, WI, DI, DA, CI, U32]) (by simp [U32, isD_u32, isD_v, isD_nil, isD_agg, IA, WI, DI, DA, CI]) ?_
  simp -implicitDefEqProofs only [go_sem, simprocAttr, -Int.reducePow, DD, x_app, x_ga0, x_gas, x_gan, Int.cast_ofNat_Int, eq_self, Int.zero_lt_one, Bool.not_false, Bool.not_true, beq_self_eq_true, WI, IA, DI, DA, CI]
  refine callK_of false dyad_Add.call (q2) rfl rfl (by simp [ownOK, own1, hd, fzH, fzArgs, fzCells, fz, IA, WI, DI, DA, CI, U32]) (by simp [U32, isD_u32, isD_v, isD_nil, isD_agg, IA, WI, DI, DA, CI]) ?_
  simp -implicitDefEqProofs only [go_sem, simprocAttr, -Int.reducePow, DD, x_app, x_ga0, x_gas, x_gan, Int.cast_ofNat_Int, eq_self, Int.zero_lt_one, Bool.not_false, Bool.not_true, beq_self_eq_true, WI, IA, DI, DA, CI]
  rfl
theorem gmul_r (ha : RC a z B) (hb : RC b w C) (hB : B + C ≤ 20000) : Sat CT false 21 [a, b] (CI (z * w)) := by
  refine sat_of gauss_Mul.ok (by simp) ?_
  have DD := gauss_Mul.dr
  simp only [drP, drPx, drPt, drR, drS, drT, bodyOf, Tryd.f21, Nat.reduceEqDiff, reduceIte, true_and, and_true] at DD
  obtain ⟨n, l, e, m, k, f, rfl, hr, hi⟩ := ha
  obtain ⟨n', l', e', m', k', f', rfl, gr, gi⟩ := hb
  have q1 := dmul_r hr gr (by omega) (by omega)
  have q2 := dmul_r hi gi (by omega) (by omega)
  have q3 := dsub_r (RD_D (hr.db.mul gr.db)) (RD_D (hi.db.mul gi.db)) hB hB
  have q4 := dmul_r hr gi (by omega) (by omega)
  have q5 := dmul_r hi gr (by omega) (by omega)
  have q6 := dadd_r (RD_D (hr.db.mul gi.db)) (RD_D (hi.db.mul gr.db)) hB hB
  simp -implicitDefEqProofs only [go_sem, simprocAttr, -Int.reducePow, Tryd.f21, DD, beq_self_eq_true, Bool.not_false, Bool.not_true, WI, IA, DI, DA, CI]
  refine callK_of false dyad_Mul.call (q1) rfl rfl (by simp [ownOK, own1, hd, fzH, fzArgs, fzCells, fz, IA, WI, DI, DA, CI, U32]) (by simp [U32, isD_u32, isD_v, isD_nil, isD_agg, IA, WI, DI, DA, CI]) ?_
  simp -implicitDefEqProofs only [go_sem, simprocAttr, -Int.reducePow, DD, x_app, x_ga0, x_gas, x_gan, Int.cast_ofNat_Int, eq_self, Int.zero_lt_one, Bool.not_false, Bool.not_true, beq_self_eq_true, WI, IA, DI, DA, CI]
  refine callK_of false dyad_Mul.call (q2) rfl rfl (by simp [ownOK, own1, hd, fzH, fzArgs, fzCells, fz, IA, WI, DI, DA, CI, U32]) (by simp [U32, isD_u32, isD_v, isD_nil, isD_agg, IA, WI, DI, DA, CI]) ?_
  simp -implicitDefEqProofs only [go_sem, simprocAttr, -Int.reducePow, DD, x_app, x_ga0, x_gas, x_gan, Int.cast_ofNat_Int, eq_self, Int.zero_lt_one, Bool.not_false, Bool.not_true, beq_self_eq_true, WI, IA, DI, DA, CI]
  refine callK_of false dyad_Sub.call (q3) rfl rfl (by simp [ownOK, own1, hd, fzH, fzArgs, fzCells, fz, IA, WI, DI, DA, CI, U32]) (by simp [U32, isD_u32, isD_v, isD_nil, isD_agg, IA, WI, DI, DA, CI]) ?_
  simp -implicitDefEqProofs only [go_sem, simprocAttr, -Int.reducePow, DD, x_app, x_ga0, x_gas, x_gan, Int.cast_ofNat_Int, eq_self, Int.zero_lt_one, Bool.not_false, Bool.not_true, beq_self_eq_true, WI, IA, DI, DA, CI]
  refine callK_of false dyad_Mul.call (q4) rfl rfl (by simp [ownOK, own1, hd, fzH, fzArgs, fzCells, fz, IA, WI, DI, DA, CI, U32]) (by simp [U32, isD_u32, isD_v, isD_nil, isD_agg, IA, WI, DI, DA, CI]) ?_
  simp -implicitDefEqProofs only [go_sem, simprocAttr, -Int.reducePow, DD, x_app, x_ga0, x_gas, x_gan, Int.cast_ofNat_Int, eq_self, Int.zero_lt_one, Bool.not_false, Bool.not_true, beq_self_eq_true, WI, IA, DI, DA, CI]
  refine callK_of false dyad_Mul.call (q5) rfl rfl (by simp [ownOK, own1, hd, fzH, fzArgs, fzCells, fz, IA, WI, DI, DA, CI, U32]) (by simp [U32, isD_u32, isD_v, isD_nil, isD_agg, IA, WI, DI, DA, CI]) ?_
  simp -implicitDefEqProofs only [go_sem, simprocAttr, -Int.reducePow, DD, x_app, x_ga0, x_gas, x_gan, Int.cast_ofNat_Int, eq_self, Int.zero_lt_one, Bool.not_false, Bool.not_true, beq_self_eq_true, WI, IA, DI, DA, CI]
  refine callK_of false dyad_Add.call (q6) rfl rfl (by simp [ownOK, own1, hd, fzH, fzArgs, fzCells, fz, IA, WI, DI, DA, CI, U32]) (by simp [U32, isD_u32, isD_v, isD_nil, isD_agg, IA, WI, DI, DA, CI]) ?_
  simp -implicitDefEqProofs only [go_sem, simprocAttr, -Int.reducePow, DD, x_app, x_ga0, x_gas, x_gan, Int.cast_ofNat_Int, eq_self, Int.zero_lt_one, Bool.not_false, Bool.not_true, beq_self_eq_true, WI, IA, DI, DA, CI]
  rfl
theorem gof_sat (v u : Int) (h1 : -9223372036854775808 ≤ v) (h2 : v ≤ 9223372036854775807) (g1 : -9223372036854775808 ≤ u) (g2 : u ≤ 9223372036854775807) : Sat CT false 17 [I64 v, I64 u] (CI ⟨dv v 0, dv u 0⟩) := by
  refine sat_of gauss_Of.ok (by simp) ?_
  have DD := gauss_Of.dr
  simp only [drP, drPx, drPt, drR, drS, drT, bodyOf, Tryd.f17, Nat.reduceEqDiff, reduceIte, true_and, and_true] at DD
  have q1 := dofn_sat v h1 h2
  have q2 := dofn_sat u g1 g2
  simp -implicitDefEqProofs only [go_sem, simprocAttr, -Int.reducePow, Tryd.f17, DD, beq_self_eq_true, Bool.not_false, Bool.not_true, WI, IA, DI, DA, CI]
  refine callK_of false dyad_Of.call (q1) rfl rfl (by simp [ownOK, own1, hd, fzH, fzArgs, fzCells, fz, IA, WI, DI, DA, CI, U32]) (by simp [U32, isD_u32, isD_v, isD_nil, isD_agg, IA, WI, DI, DA, CI]) ?_
  simp -implicitDefEqProofs only [go_sem, simprocAttr, -Int.reducePow, DD, x_app, x_ga0, x_gas, x_gan, Int.cast_ofNat_Int, eq_self, Int.zero_lt_one, Bool.not_false, Bool.not_true, beq_self_eq_true, WI, IA, DI, DA, CI]
  refine callK_of false dyad_Of.call (q2) rfl rfl (by simp [ownOK, own1, hd, fzH, fzArgs, fzCells, fz, IA, WI, DI, DA, CI, U32]) (by simp [U32, isD_u32, isD_v, isD_nil, isD_agg, IA, WI, DI, DA, CI]) ?_
  simp -implicitDefEqProofs only [go_sem, simprocAttr, -Int.reducePow, DD, x_app, x_ga0, x_gas, x_gan, Int.cast_ofNat_Int, eq_self, Int.zero_lt_one, Bool.not_false, Bool.not_true, beq_self_eq_true, WI, IA, DI, DA, CI]
theorem gzero_r (ha : RC a z B) (hB : B ≤ 20000) : Sat CT false 27 [a] (Bo (decide (z = zero))) := by
  refine sat_of gauss_Zero.ok (by simp) ?_
  have DD := gauss_Zero.dr
  simp only [drP, drPx, drPt, drR, drS, drT, bodyOf, Tryd.f27, Nat.reduceEqDiff, reduceIte, true_and, and_true] at DD
  obtain ⟨n, l, e, m, k, f, rfl, hr, hi⟩ := ha
  have q1 := dsign_r hr hB
  have q2 := dsign_r hi hB
  by_cases hx : z.re = 0
  · have c1 := sg_zero hx
    by_cases hy : z.im = 0
    · rw [decide_eq_true (Cx_zero_iff.2 ⟨hx, hy⟩)]
      have c2 := sg_zero hy
      simp -implicitDefEqProofs only [go_sem, simprocAttr, -Int.reducePow, Tryd.f27, DD, beq_self_eq_true, Bool.not_false, Bool.not_true, WI, IA, DI, DA, CI, c1, c2]
      refine callK_of false dyad_Sign.call (q1) rfl rfl (by simp [ownOK, own1, hd, fzH, fzArgs, fzCells, fz, IA, WI, DI, DA, CI, U32]) (by simp [U32, isD_u32, isD_v, isD_nil, isD_agg, IA, WI, DI, DA, CI]) ?_
      simp -implicitDefEqProofs only [go_sem, simprocAttr, -Int.reducePow, DD, x_app, x_ga0, x_gas, x_gan, Int.cast_ofNat_Int, eq_self, Int.zero_lt_one, Bool.not_false, Bool.not_true, beq_self_eq_true, WI, IA, DI, DA, CI, c1, c2]
      refine callK_of false dyad_Sign.call (q2) rfl rfl (by simp [ownOK, own1, hd, fzH, fzArgs, fzCells, fz, IA, WI, DI, DA, CI, U32]) (by simp [U32, isD_u32, isD_v, isD_nil, isD_agg, IA, WI, DI, DA, CI]) ?_
      simp -implicitDefEqProofs only [go_sem, simprocAttr, -Int.reducePow, DD, x_app, x_ga0, x_gas, x_gan, Int.cast_ofNat_Int, eq_self, Int.zero_lt_one, Bool.not_false, Bool.not_true, beq_self_eq_true, WI, IA, DI, DA, CI, c1, c2]
    · rw [decide_eq_false (fun h => hy (Cx_zero_iff.1 h).2)]
      have c2 := sg_ne hy
      simp -implicitDefEqProofs only [go_sem, simprocAttr, -Int.reducePow, Tryd.f27, DD, beq_self_eq_true, Bool.not_false, Bool.not_true, WI, IA, DI, DA, CI, c1, c2]
      refine callK_of false dyad_Sign.call (q1) rfl rfl (by simp [ownOK, own1, hd, fzH, fzArgs, fzCells, fz, IA, WI, DI, DA, CI, U32]) (by simp [U32, isD_u32, isD_v, isD_nil, isD_agg, IA, WI, DI, DA, CI]) ?_
      simp -implicitDefEqProofs only [go_sem, simprocAttr, -Int.reducePow, DD, x_app, x_ga0, x_gas, x_gan, Int.cast_ofNat_Int, eq_self, Int.zero_lt_one, Bool.not_false, Bool.not_true, beq_self_eq_true, WI, IA, DI, DA, CI, c1, c2]
      refine callK_of false dyad_Sign.call (q2) rfl rfl (by simp [ownOK, own1, hd, fzH, fzArgs, fzCells, fz, IA, WI, DI, DA, CI, U32]) (by simp [U32, isD_u32, isD_v, isD_nil, isD_agg, IA, WI, DI, DA, CI]) ?_
      simp -implicitDefEqProofs only [go_sem, simprocAttr, -Int.reducePow, DD, x_app, x_ga0, x_gas, x_gan, Int.cast_ofNat_Int, eq_self, Int.zero_lt_one, Bool.not_false, Bool.not_true, beq_self_eq_true, WI, IA, DI, DA, CI, c1, c2]
  · rw [decide_eq_false (fun h => hx (Cx_zero_iff.1 h).1)]
    have c1 := sg_ne hx
    simp -implicitDefEqProofs only [go_sem, simprocAttr, -Int.reducePow, Tryd.f27, DD, beq_self_eq_true, Bool.not_false, Bool.not_true, WI, IA, DI, DA, CI, c1]
    refine callK_of false dyad_Sign.call (q1) rfl rfl (by simp [ownOK, own1, hd, fzH, fzArgs, fzCells, fz, IA, WI, DI, DA, CI, U32]) (by simp [U32, isD_u32, isD_v, isD_nil, isD_agg, IA, WI, DI, DA, CI]) ?_
    simp -implicitDefEqProofs only [go_sem, simprocAttr, -Int.reducePow, DD, x_app, x_ga0, x_gas, x_gan, Int.cast_ofNat_Int, eq_self, Int.zero_lt_one, Bool.not_false, Bool.not_true, beq_self_eq_true, WI, IA, DI, DA, CI, c1]
end Go.Ab

/- Contracts of this seat's functions (of each call: what it answers), walked over the abstract machine, and the laws of numbers that they want. Conditions: those that each theorem states. -/
import Derived.Test.YtikhbokeaikcpaaGreatDoorFL1
set_option linter.unusedVariables false
set_option maxRecDepth 20000
set_option linter.unusedSimpArgs false
set_option linter.unusedSectionVars false
namespace Go.Ab
open Go.Proofs
attribute [-go_sem] appF newsF
/-! floats: a number times a power of two -/
theorem ldexp_o {b r : Nat} {e : Int} (k : Sat CT false 157 [F64 b, I64 e] (F64 r)) : Sat CT false 131 [F64 b, I64 e] (F64 r) := by
  refine sat_of math_Ldexp.ok (by simp) ?_
  have DD := math_Ldexp.dr
  simp only [drP, drPx, drPt, drR, drS, drT, bodyOf, Tryz.f131, Nat.reduceEqDiff, reduceIte, true_and, and_true] at DD
  simp -implicitDefEqProofs only [go_sem, simprocAttr, -Int.reducePow, Tryz.f131, DD]
  refine callK_fq math_ldexp.call (k) rfl rfl ?_
  simp -implicitDefEqProofs only [go_sem, simprocAttr, -Int.reducePow, DD]
theorem ldexp_0 {b : Nat} (e : Int) (h0 : (FloatKind.f64.format.order b 0 == some .eq) = true) : Sat CT false 131 [F64 b, I64 e] (F64 b) := by
  refine ldexp_o ?_
  refine sat_of math_ldexp.ok (by simp) ?_
  have DD := math_ldexp.dr
  simp only [drP, drPx, drPt, drR, drS, drT, bodyOf, Tryz.f157, Nat.reduceEqDiff, reduceIte, true_and, and_true] at DD
  simp -implicitDefEqProofs only [go_sem, simprocAttr, -Int.reducePow, Tryz.f157, DD, h0]
theorem ldexp_s {b b' b1 E : Nat} {e ne X : Int} (he : -100000 ≤ e ∧ e ≤ 100000) (h0 : (FloatKind.f64.format.order b 0 == some .eq) = false) (h : bits .andNot .u64 (b : Int) 9223372036854775808 = (b' : Int)) (hi : fInf b' = false) (hn : fNaN b = false) (hN : Sat CT false 183 [F64 b] (.tup [F64 b1, I64 ne])) (hne : -100 ≤ ne ∧ ne ≤ 0)
    (hs : (b1 : Int).fdiv (2 ^ 52) ≤ 9223372036854775807) (hs0 : 0 ≤ (b1 : Int).fdiv (2 ^ 52)) (hE : bits .and .i64 ((b1 : Int).fdiv (2 ^ 52)) 2047 = (E : Int)) (hE2 : E < 2048) (hX : e + ne + E - 1023 = X)
    {m1 r r' : Nat} (h1 : -1022 ≤ X) (h2 : X ≤ 1023) (hm : bits .andNot .u64 (b1 : Int) 9218868437227405312 = (m1 : Int)) (hr : bits .or .u64 (m1 : Int) ((X + 1023) * 2 ^ 52) = (r : Int)) (hf : floatBits .mul .f64 4607182418800017408 r = some r') : Sat CT false 131 [F64 b, I64 e] (F64 r') := by
  refine ldexp_o ?_
  refine sat_of math_ldexp.ok (by simp) ?_
  have DD := math_ldexp.dr
  simp only [drP, drPx, drPt, drR, drS, drT, bodyOf, Tryz.f157, Nat.reduceEqDiff, reduceIte, true_and, and_true] at DD
  have a1 := isinf_s h
  have a2 := isnan_s b
  rw [hi] at a1
  rw [hn] at a2
  have w0 : IntKind.i64.wrap (e + ne) = e + ne := wrap_i64 (by omega) (by omega)
  have w1 : IntKind.i64.wrap ((b1 : Int).fdiv (2 ^ 52)) = (b1 : Int).fdiv (2 ^ 52) := wrap_i64 (by omega) (by omega)
  have w2 : IntKind.i64.wrap ((E : Int) - 1023) = (E : Int) - 1023 := wrap_i64 (by omega) (by omega)
  have w3 : IntKind.i64.wrap (e + ne + ((E : Int) - 1023)) = X := by rw [wrap_i64 (by omega) (by omega)]; omega
  have s1 : min 52 64 = 52 := rfl
  have c1 : ¬ X < -1075 := by omega
  have c2 : ¬ 1023 < X := by omega
  have c3 : ¬ X < -1022 := by omega
  have w4 : IntKind.i64.wrap (X + 1023) = X + 1023 := wrap_i64 (by omega) (by omega)
  have w5 : IntKind.u64.wrap (X + 1023) = X + 1023 := by unfold IntKind.wrap; simp [IntKind.bits, IntKind.signed]; omega
  have w6 : IntKind.u64.wrap ((X + 1023) * 2 ^ 52) = (X + 1023) * 2 ^ 52 := by unfold IntKind.wrap; simp [IntKind.bits, IntKind.signed]; omega
  simp -implicitDefEqProofs only [go_sem, simprocAttr, -Int.reducePow, Tryz.f157, DD, h0]
  refine callK_fq math_IsInf.call (a1) rfl rfl ?_
  simp -implicitDefEqProofs only [go_sem, simprocAttr, -Int.reducePow, DD, h0]
  refine callK_fq math_IsNaN.call (a2) rfl rfl ?_
  simp -implicitDefEqProofs only [go_sem, simprocAttr, -Int.reducePow, DD, h0]
  refine callK_fq math_normalize.call (hN) rfl rfl ?_
  simp -implicitDefEqProofs only [go_sem, simprocAttr, -Int.reducePow, DD, h0, w0]
  refine callK_ext (ext_bits b1) ?_
  simp -implicitDefEqProofs only [go_sem, simprocAttr, -Int.reducePow, DD, h0, hE, w0, w1, w2, w3, s1, c1, c2, c3, w4, w5, w6, hm, hr]
  refine callK_ext (ext_from _) ?_
  simp -implicitDefEqProofs only [go_sem, simprocAttr, -Int.reducePow, DD, hf]
end Go.Ab

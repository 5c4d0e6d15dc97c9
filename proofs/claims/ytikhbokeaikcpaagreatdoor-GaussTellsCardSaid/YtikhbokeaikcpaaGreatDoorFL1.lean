/- Contracts of this seat's functions (of each call: what it answers), walked over the abstract machine, and the laws of numbers that they want. Conditions: those that each theorem states. -/
import Derived.Test.YtikhbokeaikcpaaGreatDoorFacts
set_option linter.unusedVariables false
set_option maxRecDepth 20000
set_option linter.unusedSimpArgs false
set_option linter.unusedSectionVars false
namespace Go.Ab
open Go.Proofs
attribute [-go_sem] appF newsF
/-! floats: what math's functions tell, by their bits -/
abbrev F64 (b : Nat) : AV := .v (.float .f64 b)
theorem snap_flt {H : Heap} {k : FloatKind} {x : Nat} : snap H (.v (.float k x)) = .v (.float k x) := rfl
theorem snap_cpl {H : Heap} {k : FloatKind} {x y : Nat} : snap H (.v (.complex k x y)) = .v (.complex k x y) := rfl
theorem snap1_flt {H : Heap} {k : FloatKind} {x : Nat} : snap1 H (.v (.float k x)) = .v (.float k x) := rfl
theorem snap1_cpl {H : Heap} {k : FloatKind} {x y : Nat} : snap1 H (.v (.complex k x y)) = .v (.complex k x y) := rfl
attribute [go_sem] snap_flt snap_cpl snap1_flt snap1_cpl
theorem callK_fq {C : Ctx} {d : Bool} {H H' : Heap} {K : AV → Heap → Prop} {f : FuncId} {args args' : List AV} {r : AV} (hc : callable C.P f = true) (h : Sat C false f args' r) (hH : fzH d false H args = H') (ha : args.map (snap H') = args') (hK : K r H')
    (ho : ∀ a ∈ args, ownOK H' false a := by simp [ownOK, own1, hd, fzH, fzArgs, fzCells, fz, U32]) (hi : ∀ a ∈ args', IsD a := by simp [U32, isD_u32, isD_v, isD_nil, isD_agg]) : callK C d f args H K :=
  callK_of false hc h hH ha ho hi hK
theorem fabs_s {b b' : Nat} (h : bits .andNot .u64 (b : Int) 9223372036854775808 = (b' : Int)) : Sat CT false 153 [F64 b] (F64 b') := by
  refine sat_of math_Abs.ok (by simp) ?_
  have DD := math_Abs.dr
  simp only [drP, drPx, drPt, drR, drS, drT, bodyOf, Tryz.f153, Nat.reduceEqDiff, reduceIte, true_and, and_true] at DD
  simp -implicitDefEqProofs only [go_sem, simprocAttr, -Int.reducePow, Tryz.f153, DD]
  refine callK_ext (ext_bits b) ?_
  simp -implicitDefEqProofs only [go_sem, simprocAttr, -Int.reducePow, DD, h]
  refine callK_ext (ext_from _) ?_
  simp -implicitDefEqProofs only [go_sem, simprocAttr, -Int.reducePow, DD]
/-- is it infinite, is it none -/
abbrev fInf (b' : Nat) : Bool := FloatKind.f64.format.order b' 9218868437227405311 == some .gt
abbrev fNaN (b : Nat) : Bool := FloatKind.f64.format.order b b != some .eq
theorem isinf_s {b b' : Nat} (h : bits .andNot .u64 (b : Int) 9223372036854775808 = (b' : Int)) : Sat CT false 127 [F64 b, I64 0] (Bo (fInf b')) := by
  refine sat_of math_IsInf.ok (by simp) ?_
  have DD := math_IsInf.dr
  simp only [drP, drPx, drPt, drR, drS, drT, bodyOf, Tryz.f127, Nat.reduceEqDiff, reduceIte, true_and, and_true] at DD
  have a1 := fabs_s h
  simp -implicitDefEqProofs only [go_sem, simprocAttr, -Int.reducePow, Tryz.f127, DD]
  refine callK_fq math_Abs.call (a1) rfl rfl ?_
  simp -implicitDefEqProofs only [go_sem, simprocAttr, -Int.reducePow, DD]
theorem isnan_s (b : Nat) : Sat CT false 128 [F64 b] (Bo (fNaN b)) := by
  refine sat_of math_IsNaN.ok (by simp) ?_
  have DD := math_IsNaN.dr
  simp only [drP, drPx, drPt, drR, drS, drT, bodyOf, Tryz.f128, Nat.reduceEqDiff, reduceIte, true_and, and_true] at DD
  simp -implicitDefEqProofs only [go_sem, simprocAttr, -Int.reducePow, Tryz.f128, DD]
theorem inf_s (n : Int) (h : 0 ≤ n) : Sat CT false 63 [I64 n] (F64 9218868437227405312) := by
  refine sat_of math_Inf.ok (by simp) ?_
  have DD := math_Inf.dr
  simp only [drP, drPx, drPt, drR, drS, drT, bodyOf, Tryz.f63, Nat.reduceEqDiff, reduceIte, true_and, and_true] at DD
  simp -implicitDefEqProofs only [go_sem, simprocAttr, -Int.reducePow, Tryz.f63, DD, h]
  refine callK_ext (ext_from _) ?_
  simp -implicitDefEqProofs only [go_sem, simprocAttr, -Int.reducePow, DD]
/-- no subnormal number -/
theorem norm_s {b b' : Nat} (h : bits .andNot .u64 (b : Int) 9223372036854775808 = (b' : Int)) (h1 : (FloatKind.f64.format.order b' 4503599627370496 == some .lt) = false) : Sat CT false 183 [F64 b] (.tup [F64 b, I64 0]) := by
  refine sat_of math_normalize.ok (by simp) ?_
  have DD := math_normalize.dr
  simp only [drP, drPx, drPt, drR, drS, drT, bodyOf, Tryz.f183, Nat.reduceEqDiff, reduceIte, true_and, and_true] at DD
  have a1 := fabs_s h
  simp -implicitDefEqProofs only [go_sem, simprocAttr, -Int.reducePow, Tryz.f183, DD]
  refine callK_fq math_Abs.call (a1) rfl rfl ?_
  simp -implicitDefEqProofs only [go_sem, simprocAttr, -Int.reducePow, DD, h1]
theorem frexp_i {b : Nat} (h0 : (FloatKind.f64.format.order b 0 == some .eq) = true) : Sat CT false 155 [F64 b] (.tup [F64 b, I64 0]) := by
  refine sat_of math_frexp.ok (by simp) ?_
  have DD := math_frexp.dr
  simp only [drP, drPx, drPt, drR, drS, drT, bodyOf, Tryz.f155, Nat.reduceEqDiff, reduceIte, true_and, and_true] at DD
  simp -implicitDefEqProofs only [go_sem, simprocAttr, -Int.reducePow, Tryz.f155, DD, h0]
theorem frexp_o {b r : Nat} {e : Int} (k : Sat CT false 155 [F64 b] (.tup [F64 r, I64 e])) : Sat CT false 129 [F64 b] (.tup [F64 r, I64 e]) := by
  refine sat_of math_Frexp.ok (by simp) ?_
  have DD := math_Frexp.dr
  simp only [drP, drPx, drPt, drR, drS, drT, bodyOf, Tryz.f129, Nat.reduceEqDiff, reduceIte, true_and, and_true] at DD
  simp -implicitDefEqProofs only [go_sem, simprocAttr, -Int.reducePow, Tryz.f129, DD]
  refine callK_fq math_frexp.call (k) rfl rfl ?_
  simp -implicitDefEqProofs only [go_sem, simprocAttr, -Int.reducePow, DD]
theorem frexp_0 {b : Nat} (h0 : (FloatKind.f64.format.order b 0 == some .eq) = true) : Sat CT false 129 [F64 b] (.tup [F64 b, I64 0]) := frexp_o (frexp_i h0)
/-- a number's parts -/
theorem frexp_s {b b' b1 m1 r E : Nat} {ne : Int} (h0 : (FloatKind.f64.format.order b 0 == some .eq) = false) (h : bits .andNot .u64 (b : Int) 9223372036854775808 = (b' : Int)) (hi : fInf b' = false) (hn : fNaN b = false) (hN : Sat CT false 183 [F64 b] (.tup [F64 b1, I64 ne])) (hne : -100 ≤ ne ∧ ne ≤ 0)
  (hE : bits .and .u64 ((b1 : Int).fdiv (2 ^ 52)) 2047 = (E : Int)) (hE2 : E < 2048) (hm : bits .andNot .u64 (b1 : Int) 9218868437227405312 = (m1 : Int)) (hr : bits .or .u64 (m1 : Int) 4602678819172646912 = (r : Int)) : Sat CT false 129 [F64 b] (.tup [F64 r, I64 (ne + E - 1022)]) := by
  refine frexp_o ?_
  refine sat_of math_frexp.ok (by simp) ?_
  have DD := math_frexp.dr
  simp only [drP, drPx, drPt, drR, drS, drT, bodyOf, Tryz.f155, Nat.reduceEqDiff, reduceIte, true_and, and_true] at DD
  have a1 := isinf_s h
  have a2 := isnan_s b
  rw [hi] at a1
  rw [hn] at a2
  have w1 : IntKind.i64.wrap (E : Int) = (E : Int) := wrap_i64 (by omega) (by omega)
  have w2 : IntKind.i64.wrap ((E : Int) - 1023) = (E : Int) - 1023 := wrap_i64 (by omega) (by omega)
  have w3 : IntKind.i64.wrap ((E : Int) - 1023 + 1) = (E : Int) - 1022 := by rw [wrap_i64 (by omega) (by omega)]; omega
  have w4 : IntKind.i64.wrap (ne + ((E : Int) - 1022)) = ne + E - 1022 := by rw [wrap_i64 (by omega) (by omega)]; omega
  have c1 : (0 : Int) ≤ 52 := by decide
  simp -implicitDefEqProofs only [go_sem, simprocAttr, -Int.reducePow, Tryz.f155, DD, h0]
  refine callK_fq math_IsInf.call (a1) rfl rfl ?_
  simp -implicitDefEqProofs only [go_sem, simprocAttr, -Int.reducePow, DD, h0]
  refine callK_fq math_IsNaN.call (a2) rfl rfl ?_
  simp -implicitDefEqProofs only [go_sem, simprocAttr, -Int.reducePow, DD, h0]
  refine callK_fq math_normalize.call (hN) rfl rfl ?_
  simp -implicitDefEqProofs only [go_sem, simprocAttr, -Int.reducePow, DD, h0]
  refine callK_ext (ext_bits b1) ?_
  have s1 : min 52 64 = 52 := rfl
  simp -implicitDefEqProofs only [go_sem, simprocAttr, -Int.reducePow, DD, h0, hE, hm, hr, w1, w2, w3, w4, s1]
  refine callK_ext (ext_from _) ?_
  simp -implicitDefEqProofs only [go_sem, simprocAttr, -Int.reducePow, DD]
end Go.Ab

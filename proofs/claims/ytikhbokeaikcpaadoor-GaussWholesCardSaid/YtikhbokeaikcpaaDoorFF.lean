/- Contracts of this seat's functions (of each call: what it answers), walked over the abstract machine, and the laws of numbers that they want. Conditions: those that each theorem states. -/
import Derived.Test.YtikhbokeaikcpaaDoorFacts
import Derived.Test.YtikhbokeaikcpaaDoorRR
import Derived.Test.YtikhbokeaikcpaaDoorS1
import Derived.Test.YtikhbokeaikcpaaDoorE1
import Derived.Test.YtikhbokeaikcpaaDoorDS
set_option linter.unusedVariables false
set_option maxRecDepth 20000
set_option linter.unusedSimpArgs false
set_option linter.unusedSectionVars false
namespace Go.Ab
open Go.Proofs
attribute [-go_sem] appF newsF
/-! floats: what math's functions tell, by their bits -/
abbrev F64 (b : Nat) : AV := .v (.float .f64 b)
theorem snap_flt {H : Heap} {k : FloatKind} {x : Nat} : snap H (.v (.float k x)) = .v (.float k x) := rfl
theorem snap_cpl {H : Heap} {k : FloatKind} {x y : Nat} : snap H (.v (.complex k x y)) = .v (.complex k x y) := rfl
theorem snap1_flt {H : Heap} {k : FloatKind} {x : Nat} : snap1 H (.v (.float k x)) = .v (.float k x) := rfl
theorem snap1_cpl {H : Heap} {k : FloatKind} {x y : Nat} : snap1 H (.v (.complex k x y)) = .v (.complex k x y) := rfl
attribute [go_sem] snap_flt snap_cpl snap1_flt snap1_cpl
theorem callK_fq {C : Ctx} {d : Bool} {H H' : Heap} {K : AV → Heap → Prop} {f : FuncId} {args args' : List AV} {r : AV} (hc : callable C.P f = true) (h : Sat C false f args' r) (hH : fzH d false H args = H') (ha : args.map (snap H') = args') (hK : K r H')
    (ho : ∀ a ∈ args, ownOK H' false a := by simp [ownOK, own1, hd, fzH, fzArgs, fzCells, fz, U32]) (hi : ∀ a ∈ args', IsD a := by simp [U32, isD_u32, isD_v, isD_nil, isD_agg]) : callK C d f args H K :=
  callK_of false hc h hH ha ho hi hK
theorem fabs_s {b b' : Nat} (h : bits .andNot .u64 (b : Int) 9223372036854775808 = (b' : Int)) : Sat CT false 39 [F64 b] (F64 b') := by
  refine sat_of math_Abs.ok (by simp) ?_
  have DD := math_Abs.dr
  simp only [drP, drPx, drPt, drR, drS, drT, bodyOf, Tryd.f39, Nat.reduceEqDiff, reduceIte, true_and, and_true] at DD
  simp -implicitDefEqProofs only [go_sem, simprocAttr, -Int.reducePow, Tryd.f39, DD]
  refine callK_ext (ext_bits b) ?_
  simp -implicitDefEqProofs only [go_sem, simprocAttr, -Int.reducePow, DD, h]
  refine callK_ext (ext_from _) ?_
  simp -implicitDefEqProofs only [go_sem, simprocAttr, -Int.reducePow, DD]
/-- is it infinite, is it none -/
abbrev fInf (b' : Nat) : Bool := FloatKind.f64.format.order b' 9218868437227405311 == some .gt
abbrev fNaN (b : Nat) : Bool := FloatKind.f64.format.order b b != some .eq
theorem isinf_s {b b' : Nat} (h : bits .andNot .u64 (b : Int) 9223372036854775808 = (b' : Int)) : Sat CT false 10 [F64 b, I64 0] (Bo (fInf b')) := by
  refine sat_of math_IsInf.ok (by simp) ?_
  have DD := math_IsInf.dr
  simp only [drP, drPx, drPt, drR, drS, drT, bodyOf, Tryd.f10, Nat.reduceEqDiff, reduceIte, true_and, and_true] at DD
  have a1 := fabs_s h
  simp -implicitDefEqProofs only [go_sem, simprocAttr, -Int.reducePow, Tryd.f10, DD]
  refine callK_fq math_Abs.call (a1) rfl rfl ?_
  simp -implicitDefEqProofs only [go_sem, simprocAttr, -Int.reducePow, DD]
theorem isnan_s (b : Nat) : Sat CT false 11 [F64 b] (Bo (fNaN b)) := by
  refine sat_of math_IsNaN.ok (by simp) ?_
  have DD := math_IsNaN.dr
  simp only [drP, drPx, drPt, drR, drS, drT, bodyOf, Tryd.f11, Nat.reduceEqDiff, reduceIte, true_and, and_true] at DD
  simp -implicitDefEqProofs only [go_sem, simprocAttr, -Int.reducePow, Tryd.f11, DD]
theorem inf_s (n : Int) (h : 0 ≤ n) : Sat CT false 34 [I64 n] (F64 9218868437227405312) := by
  refine sat_of math_Inf.ok (by simp) ?_
  have DD := math_Inf.dr
  simp only [drP, drPx, drPt, drR, drS, drT, bodyOf, Tryd.f34, Nat.reduceEqDiff, reduceIte, true_and, and_true] at DD
  simp -implicitDefEqProofs only [go_sem, simprocAttr, -Int.reducePow, Tryd.f34, DD, h]
  refine callK_ext (ext_from _) ?_
  simp -implicitDefEqProofs only [go_sem, simprocAttr, -Int.reducePow, DD]
theorem inf_n (n : Int) (h : ¬ 0 ≤ n) : Sat CT false 34 [I64 n] (F64 18442240474082181120) := by
  refine sat_of math_Inf.ok (by simp) ?_
  have DD := math_Inf.dr
  simp only [drP, drPx, drPt, drR, drS, drT, bodyOf, Tryd.f34, Nat.reduceEqDiff, reduceIte, true_and, and_true] at DD
  simp -implicitDefEqProofs only [go_sem, simprocAttr, -Int.reducePow, Tryd.f34, DD, h]
  refine callK_ext (ext_from _) ?_
  simp -implicitDefEqProofs only [go_sem, simprocAttr, -Int.reducePow, DD]
/-- no subnormal number -/
theorem norm_s {b b' : Nat} (h : bits .andNot .u64 (b : Int) 9223372036854775808 = (b' : Int)) (h1 : (FloatKind.f64.format.order b' 4503599627370496 == some .lt) = false) : Sat CT false 104 [F64 b] (.tup [F64 b, I64 0]) := by
  refine sat_of math_normalize.ok (by simp) ?_
  have DD := math_normalize.dr
  simp only [drP, drPx, drPt, drR, drS, drT, bodyOf, Tryd.f104, Nat.reduceEqDiff, reduceIte, true_and, and_true] at DD
  have a1 := fabs_s h
  simp -implicitDefEqProofs only [go_sem, simprocAttr, -Int.reducePow, Tryd.f104, DD]
  refine callK_fq math_Abs.call (a1) rfl rfl ?_
  simp -implicitDefEqProofs only [go_sem, simprocAttr, -Int.reducePow, DD, h1]
theorem norm_l {b b' r : Nat} (h : bits .andNot .u64 (b : Int) 9223372036854775808 = (b' : Int)) (h1 : (FloatKind.f64.format.order b' 4503599627370496 == some .lt) = true) (hr : floatBits .mul .f64 b 4841369599423283200 = some r) : Sat CT false 104 [F64 b] (.tup [F64 r, I64 (-52)]) := by
  refine sat_of math_normalize.ok (by simp) ?_
  have DD := math_normalize.dr
  simp only [drP, drPx, drPt, drR, drS, drT, bodyOf, Tryd.f104, Nat.reduceEqDiff, reduceIte, true_and, and_true] at DD
  have a1 := fabs_s h
  simp -implicitDefEqProofs only [go_sem, simprocAttr, -Int.reducePow, Tryd.f104, DD]
  refine callK_fq math_Abs.call (a1) rfl rfl ?_
  simp -implicitDefEqProofs only [go_sem, simprocAttr, -Int.reducePow, DD, h1, hr]
theorem frexp_i {b : Nat} (h0 : (FloatKind.f64.format.order b 0 == some .eq) = true) : Sat CT false 84 [F64 b] (.tup [F64 b, I64 0]) := by
  refine sat_of math_frexp.ok (by simp) ?_
  have DD := math_frexp.dr
  simp only [drP, drPx, drPt, drR, drS, drT, bodyOf, Tryd.f84, Nat.reduceEqDiff, reduceIte, true_and, and_true] at DD
  simp -implicitDefEqProofs only [go_sem, simprocAttr, -Int.reducePow, Tryd.f84, DD, h0]
theorem frexp_o {b r : Nat} {e : Int} (k : Sat CT false 84 [F64 b] (.tup [F64 r, I64 e])) : Sat CT false 59 [F64 b] (.tup [F64 r, I64 e]) := by
  refine sat_of math_Frexp.ok (by simp) ?_
  have DD := math_Frexp.dr
  simp only [drP, drPx, drPt, drR, drS, drT, bodyOf, Tryd.f59, Nat.reduceEqDiff, reduceIte, true_and, and_true] at DD
  simp -implicitDefEqProofs only [go_sem, simprocAttr, -Int.reducePow, Tryd.f59, DD]
  refine callK_fq math_frexp.call (k) rfl rfl ?_
  simp -implicitDefEqProofs only [go_sem, simprocAttr, -Int.reducePow, DD]
theorem frexp_0 {b : Nat} (h0 : (FloatKind.f64.format.order b 0 == some .eq) = true) : Sat CT false 59 [F64 b] (.tup [F64 b, I64 0]) := frexp_o (frexp_i h0)
/-- a number's parts -/
theorem frexp_s {b b' b1 m1 r E : Nat} {ne : Int} (h0 : (FloatKind.f64.format.order b 0 == some .eq) = false) (h : bits .andNot .u64 (b : Int) 9223372036854775808 = (b' : Int)) (hi : fInf b' = false) (hn : fNaN b = false) (hN : Sat CT false 104 [F64 b] (.tup [F64 b1, I64 ne])) (hne : -100 ≤ ne ∧ ne ≤ 0)
  (hE : bits .and .u64 ((b1 : Int).fdiv (2 ^ 52)) 2047 = (E : Int)) (hE2 : E < 2048) (hm : bits .andNot .u64 (b1 : Int) 9218868437227405312 = (m1 : Int)) (hr : bits .or .u64 (m1 : Int) 4602678819172646912 = (r : Int)) : Sat CT false 59 [F64 b] (.tup [F64 r, I64 (ne + E - 1022)]) := by
  refine frexp_o ?_
  refine sat_of math_frexp.ok (by simp) ?_
  have DD := math_frexp.dr
  simp only [drP, drPx, drPt, drR, drS, drT, bodyOf, Tryd.f84, Nat.reduceEqDiff, reduceIte, true_and, and_true] at DD
  have a1 := isinf_s h
  have a2 := isnan_s b
  rw [hi] at a1
  rw [hn] at a2
  have w1 : IntKind.i64.wrap (E : Int) = (E : Int) := wrap_i64 (by omega) (by omega)
  have w2 : IntKind.i64.wrap ((E : Int) - 1023) = (E : Int) - 1023 := wrap_i64 (by omega) (by omega)
  have w3 : IntKind.i64.wrap ((E : Int) - 1023 + 1) = (E : Int) - 1022 := by rw [wrap_i64 (by omega) (by omega)]; omega
  have w4 : IntKind.i64.wrap (ne + ((E : Int) - 1022)) = ne + E - 1022 := by rw [wrap_i64 (by omega) (by omega)]; omega
  have c1 : (0 : Int) ≤ 52 := by decide
  simp -implicitDefEqProofs only [go_sem, simprocAttr, -Int.reducePow, Tryd.f84, DD, h0]
  refine callK_fq math_IsInf.call (a1) rfl rfl ?_
  simp -implicitDefEqProofs only [go_sem, simprocAttr, -Int.reducePow, DD, h0]
  refine callK_fq math_IsNaN.call (a2) rfl rfl ?_
  simp -implicitDefEqProofs only [go_sem, simprocAttr, -Int.reducePow, DD, h0]
  refine callK_fq math_normalize.call (hN) rfl rfl ?_
  simp -implicitDefEqProofs only [go_sem, simprocAttr, -Int.reducePow, DD, h0]
  refine callK_ext (ext_bits b1) ?_
  have s1 : min 52 64 = 52 := rfl
  simp -implicitDefEqProofs only [go_sem, simprocAttr, -Int.reducePow, DD, h0, hE, hm, hr, w1, w2, w3, w4, s1]
  refine callK_ext (ext_from _) ?_
  simp -implicitDefEqProofs only [go_sem, simprocAttr, -Int.reducePow, DD]
end Go.Ab

set_option linter.unusedVariables false
set_option maxRecDepth 20000
set_option linter.unusedSimpArgs false
set_option linter.unusedSectionVars false
namespace Go.Ab
open Go.Proofs
attribute [-go_sem] appF newsF
/-! floats: a number times a power of two -/
theorem ldexp_o {b r : Nat} {e : Int} (k : Sat CT false 87 [F64 b, I64 e] (F64 r)) : Sat CT false 62 [F64 b, I64 e] (F64 r) := by
  refine sat_of math_Ldexp.ok (by simp) ?_
  have DD := math_Ldexp.dr
  simp only [drP, drPx, drPt, drR, drS, drT, bodyOf, Tryd.f62, Nat.reduceEqDiff, reduceIte, true_and, and_true] at DD
  simp -implicitDefEqProofs only [go_sem, simprocAttr, -Int.reducePow, Tryd.f62, DD]
  refine callK_fq math_ldexp.call (k) rfl rfl ?_
  simp -implicitDefEqProofs only [go_sem, simprocAttr, -Int.reducePow, DD]
theorem ldexp_0 {b : Nat} (e : Int) (h0 : (FloatKind.f64.format.order b 0 == some .eq) = true) : Sat CT false 62 [F64 b, I64 e] (F64 b) := by
  refine ldexp_o ?_
  refine sat_of math_ldexp.ok (by simp) ?_
  have DD := math_ldexp.dr
  simp only [drP, drPx, drPt, drR, drS, drT, bodyOf, Tryd.f87, Nat.reduceEqDiff, reduceIte, true_and, and_true] at DD
  simp -implicitDefEqProofs only [go_sem, simprocAttr, -Int.reducePow, Tryd.f87, DD, h0]
theorem copysign_s {b s r : Nat} (h1 : bits .and .u64 (b : Int) 9223372036854775808 = (s : Int)) (h2 : bits .or .u64 0 (s : Int) = (r : Int)) : Sat CT false 106 [F64 0, F64 b] (F64 r) := by
  refine sat_of math_Copysign.ok (by simp) ?_
  have DD := math_Copysign.dr
  simp only [drP, drPx, drPt, drR, drS, drT, bodyOf, Tryd.f106, Nat.reduceEqDiff, reduceIte, true_and, and_true] at DD
  have h3 : bits .andNot .u64 0 9223372036854775808 = 0 := by decide
  have e0 := ext_bits 0
  simp -implicitDefEqProofs only [go_sem, simprocAttr, -Int.reducePow, Tryd.f106, DD]
  refine callK_ext e0 ?_
  simp -implicitDefEqProofs only [go_sem, simprocAttr, -Int.reducePow, DD, h3, Int.natCast_zero]
  refine callK_ext (ext_bits b) ?_
  simp -implicitDefEqProofs only [go_sem, simprocAttr, -Int.reducePow, DD, h1, h2, h3, Int.natCast_zero]
  refine callK_ext (ext_from _) ?_
  simp -implicitDefEqProofs only [go_sem, simprocAttr, -Int.reducePow, DD]
theorem ldexp_s {b b' b1 E : Nat} {e ne X : Int} (he : -100000 ≤ e ∧ e ≤ 100000) (h0 : (FloatKind.f64.format.order b 0 == some .eq) = false) (h : bits .andNot .u64 (b : Int) 9223372036854775808 = (b' : Int)) (hi : fInf b' = false) (hn : fNaN b = false) (hN : Sat CT false 104 [F64 b] (.tup [F64 b1, I64 ne])) (hne : -100 ≤ ne ∧ ne ≤ 0)
    (hs : (b1 : Int).fdiv (2 ^ 52) ≤ 9223372036854775807) (hs0 : 0 ≤ (b1 : Int).fdiv (2 ^ 52)) (hE : bits .and .i64 ((b1 : Int).fdiv (2 ^ 52)) 2047 = (E : Int)) (hE2 : E < 2048) (hX : e + ne + E - 1023 = X)
    {m1 r r' : Nat} (h1 : -1022 ≤ X) (h2 : X ≤ 1023) (hm : bits .andNot .u64 (b1 : Int) 9218868437227405312 = (m1 : Int)) (hr : bits .or .u64 (m1 : Int) ((X + 1023) * 2 ^ 52) = (r : Int)) (hf : floatBits .mul .f64 4607182418800017408 r = some r') : Sat CT false 62 [F64 b, I64 e] (F64 r') := by
  refine ldexp_o ?_
  refine sat_of math_ldexp.ok (by simp) ?_
  have DD := math_ldexp.dr
  simp only [drP, drPx, drPt, drR, drS, drT, bodyOf, Tryd.f87, Nat.reduceEqDiff, reduceIte, true_and, and_true] at DD
  have a1 := isinf_s h
  have a2 := isnan_s b
  rw [hi] at a1
  rw [hn] at a2
  have w0 : IntKind.i64.wrap (e + ne) = e + ne := wrap_i64 (by omega) (by omega)
  have w1 : IntKind.i64.wrap ((b1 : Int).fdiv (2 ^ 52)) = (b1 : Int).fdiv (2 ^ 52) := wrap_i64 (by omega) (by omega)
  have w2 : IntKind.i64.wrap ((E : Int) - 1023) = (E : Int) - 1023 := wrap_i64 (by omega) (by omega)
  have w3 : IntKind.i64.wrap (e + ne + ((E : Int) - 1023)) = X := by rw [wrap_i64 (by omega) (by omega)]; omega
  have s1 : min 52 64 = 52 := rfl
  have c1 : ¬ X < -1075 := by omega
  have c2 : ¬ 1023 < X := by omega
  have c3 : ¬ X < -1022 := by omega
  have w4 : IntKind.i64.wrap (X + 1023) = X + 1023 := wrap_i64 (by omega) (by omega)
  have w5 : IntKind.u64.wrap (X + 1023) = X + 1023 := by unfold IntKind.wrap; simp [IntKind.bits, IntKind.signed]; omega
  have w6 : IntKind.u64.wrap ((X + 1023) * 2 ^ 52) = (X + 1023) * 2 ^ 52 := by unfold IntKind.wrap; simp [IntKind.bits, IntKind.signed]; omega
  simp -implicitDefEqProofs only [go_sem, simprocAttr, -Int.reducePow, Tryd.f87, DD, h0]
  refine callK_fq math_IsInf.call (a1) rfl rfl ?_
  simp -implicitDefEqProofs only [go_sem, simprocAttr, -Int.reducePow, DD, h0]
  refine callK_fq math_IsNaN.call (a2) rfl rfl ?_
  simp -implicitDefEqProofs only [go_sem, simprocAttr, -Int.reducePow, DD, h0]
  refine callK_fq math_normalize.call (hN) rfl rfl ?_
  simp -implicitDefEqProofs only [go_sem, simprocAttr, -Int.reducePow, DD, h0, w0]
  refine callK_ext (ext_bits b1) ?_
  simp -implicitDefEqProofs only [go_sem, simprocAttr, -Int.reducePow, DD, h0, hE, w0, w1, w2, w3, s1, c1, c2, c3, w4, w5, w6, hm, hr]
  refine callK_ext (ext_from _) ?_
  simp -implicitDefEqProofs only [go_sem, simprocAttr, -Int.reducePow, DD, hf]
theorem ldexp_lo {b b' b1 E : Nat} {e ne X : Int} (he : -100000 ≤ e ∧ e ≤ 100000) (h0 : (FloatKind.f64.format.order b 0 == some .eq) = false) (h : bits .andNot .u64 (b : Int) 9223372036854775808 = (b' : Int)) (hi : fInf b' = false) (hn : fNaN b = false) (hN : Sat CT false 104 [F64 b] (.tup [F64 b1, I64 ne])) (hne : -100 ≤ ne ∧ ne ≤ 0)
    (hs : (b1 : Int).fdiv (2 ^ 52) ≤ 9223372036854775807) (hs0 : 0 ≤ (b1 : Int).fdiv (2 ^ 52)) (hE : bits .and .i64 ((b1 : Int).fdiv (2 ^ 52)) 2047 = (E : Int)) (hE2 : E < 2048) (hX : e + ne + E - 1023 = X)
    {s r : Nat} (h1 : X < -1075) (hs1 : bits .and .u64 (b1 : Int) 9223372036854775808 = (s : Int)) (hs2 : bits .or .u64 0 (s : Int) = (r : Int)) : Sat CT false 62 [F64 b, I64 e] (F64 r) := by
  refine ldexp_o ?_
  refine sat_of math_ldexp.ok (by simp) ?_
  have DD := math_ldexp.dr
  simp only [drP, drPx, drPt, drR, drS, drT, bodyOf, Tryd.f87, Nat.reduceEqDiff, reduceIte, true_and, and_true] at DD
  have a1 := isinf_s h
  have a2 := isnan_s b
  rw [hi] at a1
  rw [hn] at a2
  have w0 : IntKind.i64.wrap (e + ne) = e + ne := wrap_i64 (by omega) (by omega)
  have w1 : IntKind.i64.wrap ((b1 : Int).fdiv (2 ^ 52)) = (b1 : Int).fdiv (2 ^ 52) := wrap_i64 (by omega) (by omega)
  have w2 : IntKind.i64.wrap ((E : Int) - 1023) = (E : Int) - 1023 := wrap_i64 (by omega) (by omega)
  have w3 : IntKind.i64.wrap (e + ne + ((E : Int) - 1023)) = X := by rw [wrap_i64 (by omega) (by omega)]; omega
  have s1 : min 52 64 = 52 := rfl
  have c1 : X < -1075 := h1
  have q1 := copysign_s hs1 hs2
  simp -implicitDefEqProofs only [go_sem, simprocAttr, -Int.reducePow, Tryd.f87, DD, h0]
  refine callK_fq math_IsInf.call (a1) rfl rfl ?_
  simp -implicitDefEqProofs only [go_sem, simprocAttr, -Int.reducePow, DD, h0]
  refine callK_fq math_IsNaN.call (a2) rfl rfl ?_
  simp -implicitDefEqProofs only [go_sem, simprocAttr, -Int.reducePow, DD, h0]
  refine callK_fq math_normalize.call (hN) rfl rfl ?_
  simp -implicitDefEqProofs only [go_sem, simprocAttr, -Int.reducePow, DD, h0, w0]
  refine callK_ext (ext_bits b1) ?_
  simp -implicitDefEqProofs only [go_sem, simprocAttr, -Int.reducePow, DD, h0, hE, w0, w1, w2, w3, s1, c1]
  refine callK_fq math_Copysign.call (q1) rfl rfl ?_
  simp -implicitDefEqProofs only [go_sem, simprocAttr, -Int.reducePow, DD]
theorem ldexp_hi {b b' b1 E : Nat} {e ne X : Int} (he : -100000 ≤ e ∧ e ≤ 100000) (h0 : (FloatKind.f64.format.order b 0 == some .eq) = false) (h : bits .andNot .u64 (b : Int) 9223372036854775808 = (b' : Int)) (hi : fInf b' = false) (hn : fNaN b = false) (hN : Sat CT false 104 [F64 b] (.tup [F64 b1, I64 ne])) (hne : -100 ≤ ne ∧ ne ≤ 0)
    (hs : (b1 : Int).fdiv (2 ^ 52) ≤ 9223372036854775807) (hs0 : 0 ≤ (b1 : Int).fdiv (2 ^ 52)) (hE : bits .and .i64 ((b1 : Int).fdiv (2 ^ 52)) 2047 = (E : Int)) (hE2 : E < 2048) (hX : e + ne + E - 1023 = X)
    (h1 : 1023 < X) (hs1 : (FloatKind.f64.format.order b1 0 == some .lt) = false) : Sat CT false 62 [F64 b, I64 e] (F64 9218868437227405312) := by
  refine ldexp_o ?_
  refine sat_of math_ldexp.ok (by simp) ?_
  have DD := math_ldexp.dr
  simp only [drP, drPx, drPt, drR, drS, drT, bodyOf, Tryd.f87, Nat.reduceEqDiff, reduceIte, true_and, and_true] at DD
  have a1 := isinf_s h
  have a2 := isnan_s b
  rw [hi] at a1
  rw [hn] at a2
  have w0 : IntKind.i64.wrap (e + ne) = e + ne := wrap_i64 (by omega) (by omega)
  have w1 : IntKind.i64.wrap ((b1 : Int).fdiv (2 ^ 52)) = (b1 : Int).fdiv (2 ^ 52) := wrap_i64 (by omega) (by omega)
  have w2 : IntKind.i64.wrap ((E : Int) - 1023) = (E : Int) - 1023 := wrap_i64 (by omega) (by omega)
  have w3 : IntKind.i64.wrap (e + ne + ((E : Int) - 1023)) = X := by rw [wrap_i64 (by omega) (by omega)]; omega
  have s1 : min 52 64 = 52 := rfl
  have c1 : ¬ X < -1075 := by omega
  have c2 : 1023 < X := h1
  have q1 := inf_s 1 (by decide)
  simp -implicitDefEqProofs only [go_sem, simprocAttr, -Int.reducePow, Tryd.f87, DD, h0]
  refine callK_fq math_IsInf.call (a1) rfl rfl ?_
  simp -implicitDefEqProofs only [go_sem, simprocAttr, -Int.reducePow, DD, h0]
  refine callK_fq math_IsNaN.call (a2) rfl rfl ?_
  simp -implicitDefEqProofs only [go_sem, simprocAttr, -Int.reducePow, DD, h0]
  refine callK_fq math_normalize.call (hN) rfl rfl ?_
  simp -implicitDefEqProofs only [go_sem, simprocAttr, -Int.reducePow, DD, h0, w0]
  refine callK_ext (ext_bits b1) ?_
  simp -implicitDefEqProofs only [go_sem, simprocAttr, -Int.reducePow, DD, h0, hE, w0, w1, w2, w3, s1, c1, c2, hs1]
  refine callK_fq math_Inf.call (q1) rfl rfl ?_
  simp -implicitDefEqProofs only [go_sem, simprocAttr, -Int.reducePow, DD]
theorem ldexp_hn {b b' b1 E : Nat} {e ne X : Int} (he : -100000 ≤ e ∧ e ≤ 100000) (h0 : (FloatKind.f64.format.order b 0 == some .eq) = false) (h : bits .andNot .u64 (b : Int) 9223372036854775808 = (b' : Int)) (hi : fInf b' = false) (hn : fNaN b = false) (hN : Sat CT false 104 [F64 b] (.tup [F64 b1, I64 ne])) (hne : -100 ≤ ne ∧ ne ≤ 0)
    (hs : (b1 : Int).fdiv (2 ^ 52) ≤ 9223372036854775807) (hs0 : 0 ≤ (b1 : Int).fdiv (2 ^ 52)) (hE : bits .and .i64 ((b1 : Int).fdiv (2 ^ 52)) 2047 = (E : Int)) (hE2 : E < 2048) (hX : e + ne + E - 1023 = X)
    (h1 : 1023 < X) (hs1 : (FloatKind.f64.format.order b1 0 == some .lt) = true) : Sat CT false 62 [F64 b, I64 e] (F64 18442240474082181120) := by
  refine ldexp_o ?_
  refine sat_of math_ldexp.ok (by simp) ?_
  have DD := math_ldexp.dr
  simp only [drP, drPx, drPt, drR, drS, drT, bodyOf, Tryd.f87, Nat.reduceEqDiff, reduceIte, true_and, and_true] at DD
  have a1 := isinf_s h
  have a2 := isnan_s b
  rw [hi] at a1
  rw [hn] at a2
  have w0 : IntKind.i64.wrap (e + ne) = e + ne := wrap_i64 (by omega) (by omega)
  have w1 : IntKind.i64.wrap ((b1 : Int).fdiv (2 ^ 52)) = (b1 : Int).fdiv (2 ^ 52) := wrap_i64 (by omega) (by omega)
  have w2 : IntKind.i64.wrap ((E : Int) - 1023) = (E : Int) - 1023 := wrap_i64 (by omega) (by omega)
  have w3 : IntKind.i64.wrap (e + ne + ((E : Int) - 1023)) = X := by rw [wrap_i64 (by omega) (by omega)]; omega
  have s1 : min 52 64 = 52 := rfl
  have c1 : ¬ X < -1075 := by omega
  have c2 : 1023 < X := h1
  have q1 := inf_n (-1) (by decide)
  simp -implicitDefEqProofs only [go_sem, simprocAttr, -Int.reducePow, Tryd.f87, DD, h0]
  refine callK_fq math_IsInf.call (a1) rfl rfl ?_
  simp -implicitDefEqProofs only [go_sem, simprocAttr, -Int.reducePow, DD, h0]
  refine callK_fq math_IsNaN.call (a2) rfl rfl ?_
  simp -implicitDefEqProofs only [go_sem, simprocAttr, -Int.reducePow, DD, h0]
  refine callK_fq math_normalize.call (hN) rfl rfl ?_
  simp -implicitDefEqProofs only [go_sem, simprocAttr, -Int.reducePow, DD, h0, w0]
  refine callK_ext (ext_bits b1) ?_
  simp -implicitDefEqProofs only [go_sem, simprocAttr, -Int.reducePow, DD, h0, hE, w0, w1, w2, w3, s1, c1, c2, hs1]
  refine callK_fq math_Inf.call (q1) rfl rfl ?_
  simp -implicitDefEqProofs only [go_sem, simprocAttr, -Int.reducePow, DD]
theorem ldexp_d {b b' b1 E : Nat} {e ne X : Int} (he : -100000 ≤ e ∧ e ≤ 100000) (h0 : (FloatKind.f64.format.order b 0 == some .eq) = false) (h : bits .andNot .u64 (b : Int) 9223372036854775808 = (b' : Int)) (hi : fInf b' = false) (hn : fNaN b = false) (hN : Sat CT false 104 [F64 b] (.tup [F64 b1, I64 ne])) (hne : -100 ≤ ne ∧ ne ≤ 0)
    (hs : (b1 : Int).fdiv (2 ^ 52) ≤ 9223372036854775807) (hs0 : 0 ≤ (b1 : Int).fdiv (2 ^ 52)) (hE : bits .and .i64 ((b1 : Int).fdiv (2 ^ 52)) 2047 = (E : Int)) (hE2 : E < 2048) (hX : e + ne + E - 1023 = X)
    {m1 r r' : Nat} (h1 : -1075 ≤ X) (h2 : X < -1022) (hm : bits .andNot .u64 (b1 : Int) 9218868437227405312 = (m1 : Int)) (hr : bits .or .u64 (m1 : Int) ((X + 53 + 1023) * 2 ^ 52) = (r : Int)) (hf : floatBits .mul .f64 4368491638549381120 r = some r') : Sat CT false 62 [F64 b, I64 e] (F64 r') := by
  refine ldexp_o ?_
  refine sat_of math_ldexp.ok (by simp) ?_
  have DD := math_ldexp.dr
  simp only [drP, drPx, drPt, drR, drS, drT, bodyOf, Tryd.f87, Nat.reduceEqDiff, reduceIte, true_and, and_true] at DD
  have a1 := isinf_s h
  have a2 := isnan_s b
  rw [hi] at a1
  rw [hn] at a2
  have w0 : IntKind.i64.wrap (e + ne) = e + ne := wrap_i64 (by omega) (by omega)
  have w1 : IntKind.i64.wrap ((b1 : Int).fdiv (2 ^ 52)) = (b1 : Int).fdiv (2 ^ 52) := wrap_i64 (by omega) (by omega)
  have w2 : IntKind.i64.wrap ((E : Int) - 1023) = (E : Int) - 1023 := wrap_i64 (by omega) (by omega)
  have w3 : IntKind.i64.wrap (e + ne + ((E : Int) - 1023)) = X := by rw [wrap_i64 (by omega) (by omega)]; omega
  have s1 : min 52 64 = 52 := rfl
  have c1 : ¬ X < -1075 := by omega
  have c2 : ¬ 1023 < X := by omega
  have c3 : X < -1022 := by omega
  have w8 : IntKind.i64.wrap (X + 53) = X + 53 := wrap_i64 (by omega) (by omega)
  have w4 : IntKind.i64.wrap (X + 53 + 1023) = X + 53 + 1023 := wrap_i64 (by omega) (by omega)
  have w5 : IntKind.u64.wrap (X + 53 + 1023) = X + 53 + 1023 := by unfold IntKind.wrap; simp [IntKind.bits, IntKind.signed]; omega
  have w6 : IntKind.u64.wrap ((X + 53 + 1023) * 2 ^ 52) = (X + 53 + 1023) * 2 ^ 52 := by unfold IntKind.wrap; simp [IntKind.bits, IntKind.signed]; omega
  simp -implicitDefEqProofs only [go_sem, simprocAttr, -Int.reducePow, Tryd.f87, DD, h0]
  refine callK_fq math_IsInf.call (a1) rfl rfl ?_
  simp -implicitDefEqProofs only [go_sem, simprocAttr, -Int.reducePow, DD, h0]
  refine callK_fq math_IsNaN.call (a2) rfl rfl ?_
  simp -implicitDefEqProofs only [go_sem, simprocAttr, -Int.reducePow, DD, h0]
  refine callK_fq math_normalize.call (hN) rfl rfl ?_
  simp -implicitDefEqProofs only [go_sem, simprocAttr, -Int.reducePow, DD, h0, w0]
  refine callK_ext (ext_bits b1) ?_
  simp -implicitDefEqProofs only [go_sem, simprocAttr, -Int.reducePow, DD, h0, hE, w0, w1, w2, w3, s1, c1, c2, c3, w8, w4, w5, w6, hm, hr]
  refine callK_ext (ext_from _) ?_
  simp -implicitDefEqProofs only [go_sem, simprocAttr, -Int.reducePow, DD, hf]
end Go.Ab

set_option linter.unusedVariables false
set_option maxRecDepth 20000
set_option linter.unusedSimpArgs false
set_option linter.unusedSectionVars false
namespace Go.Ab
open Go.Proofs
open Cx (zero one)
attribute [-go_sem] appF newsF
variable {a b : AV} {x y r s t : Dyadic} {z w c d e : Cx} {B C n m : Nat}
/-! floats and points -/
theorem dmake_s (q e : Int) (hq : Lt2 q.natAbs 100000) (hl : Lz q < 1099511000) (he : -20000 ≤ e ∧ e ≤ 20000) : Sat CT false 60 [WI q, I64 e] (DI (dv q e)) := by
  refine sat_of dyad_Make.ok (by simp) ?_
  have DD := dyad_Make.dr
  simp only [drP, drPx, drPt, drR, drS, drT, bodyOf, Tryd.f60, Nat.reduceEqDiff, reduceIte, true_and, and_true] at DD
  have h1 := dheld_sat e (by omega)
  have h2 := raw_W q e hq hl (by omega)
  simp -implicitDefEqProofs only [go_sem, simprocAttr, -Int.reducePow, Tryd.f60, DD, x_app, x_ga0, x_gas, x_gan, Int.cast_ofNat_Int, eq_self, Int.zero_lt_one, Bool.not_false, Bool.not_true, beq_self_eq_true, WI, IA, DI, DA, CI]
  refine callK_q dyad_held.call (h1) rfl rfl ?_
  simp -implicitDefEqProofs only [go_sem, simprocAttr, -Int.reducePow, DD, x_app, x_ga0, x_gas, x_gan, Int.cast_ofNat_Int, eq_self, Int.zero_lt_one, Bool.not_false, Bool.not_true, beq_self_eq_true, WI, IA, DI, DA, CI]
  refine callK_q dyad_Raw.call (h2) rfl rfl ?_
  simp -implicitDefEqProofs only [go_sem, simprocAttr, -Int.reducePow, DD, x_app, x_ga0, x_gas, x_gan, Int.cast_ofNat_Int, eq_self, Int.zero_lt_one, Bool.not_false, Bool.not_true, beq_self_eq_true, WI, IA, DI, DA, CI]
theorem Lz_64 {v : Int} (h : v.natAbs < 2 ^ 64) : Lt2 v.natAbs 100000 ∧ Lz v < 1099511000 := by
  refine ⟨Lt2.mono (show Lt2 v.natAbs 64 from h) (by decide), ?_⟩
  have : Lz v ≤ 2 := lim_length_le (Nat.lt_of_lt_of_le h (by decide))
  omega
theorem gexact_s {b b' fr l : Nat} {fe v : Int} (h : bits .andNot .u64 (b : Int) 9223372036854775808 = (b' : Int)) (hi : fInf b' = false) (hn : fNaN b = false) (hF : Sat CT false 59 [F64 b] (.tup [F64 fr, I64 fe])) (hL : Sat CT false 62 [F64 fr, I64 53] (F64 l)) (hv : floatToIntVal .f64 l .i64 = some v)
    (hvb : -9223372036854775808 ≤ v ∧ v ≤ 9223372036854775807) (hfe : -19000 ≤ fe ∧ fe ≤ 19000) : Sat CT false 38 [F64 b] (.tup [DI (dv v (fe - 53)), Bo true]) := by
  refine sat_of gauss_exact.ok (by simp) ?_
  have DD := gauss_exact.dr
  simp only [drP, drPx, drPt, drR, drS, drT, bodyOf, Tryd.f38, Nat.reduceEqDiff, reduceIte, true_and, and_true] at DD
  have a1 := isinf_s h
  have a2 := isnan_s b
  rw [hi] at a1
  rw [hn] at a2
  obtain ⟨b1, b2⟩ := Lz_64 (v := v) (by omega)
  have o1 := wof_sat v hvb.1 hvb.2
  have m1 := dmake_s v (fe - 53) b1 b2 (by omega)
  have w1 : IntKind.i64.wrap (fe - 53) = fe - 53 := wrap_i64 (by omega) (by omega)
  simp -implicitDefEqProofs only [go_sem, simprocAttr, -Int.reducePow, Tryd.f38, DD, x_app, x_ga0, x_gas, x_gan, Int.cast_ofNat_Int, eq_self, Int.zero_lt_one, Bool.not_false, Bool.not_true, beq_self_eq_true, WI, IA, DI, DA, CI]
  refine callK_q math_IsInf.call (a1) rfl rfl ?_
  simp -implicitDefEqProofs only [go_sem, simprocAttr, -Int.reducePow, DD, x_app, x_ga0, x_gas, x_gan, Int.cast_ofNat_Int, eq_self, Int.zero_lt_one, Bool.not_false, Bool.not_true, beq_self_eq_true, WI, IA, DI, DA, CI]
  refine callK_q math_IsNaN.call (a2) rfl rfl ?_
  simp -implicitDefEqProofs only [go_sem, simprocAttr, -Int.reducePow, DD, x_app, x_ga0, x_gas, x_gan, Int.cast_ofNat_Int, eq_self, Int.zero_lt_one, Bool.not_false, Bool.not_true, beq_self_eq_true, WI, IA, DI, DA, CI]
  refine callK_q math_Frexp.call (hF) rfl rfl ?_
  simp -implicitDefEqProofs only [go_sem, simprocAttr, -Int.reducePow, DD, x_app, x_ga0, x_gas, x_gan, Int.cast_ofNat_Int, eq_self, Int.zero_lt_one, Bool.not_false, Bool.not_true, beq_self_eq_true, WI, IA, DI, DA, CI]
  refine callK_q math_Ldexp.call (hL) rfl rfl ?_
  simp -implicitDefEqProofs only [go_sem, simprocAttr, -Int.reducePow, DD, x_app, x_ga0, x_gas, x_gan, Int.cast_ofNat_Int, eq_self, Int.zero_lt_one, Bool.not_false, Bool.not_true, beq_self_eq_true, WI, IA, DI, DA, CI, hv, w1]
  refine callK_q whole_Of.call (o1) rfl rfl ?_
  simp -implicitDefEqProofs only [go_sem, simprocAttr, -Int.reducePow, DD, x_app, x_ga0, x_gas, x_gan, Int.cast_ofNat_Int, eq_self, Int.zero_lt_one, Bool.not_false, Bool.not_true, beq_self_eq_true, WI, IA, DI, DA, CI, hv, w1]
  refine callK_q dyad_Make.call (m1) rfl rfl ?_
  simp -implicitDefEqProofs only [go_sem, simprocAttr, -Int.reducePow, DD, x_app, x_ga0, x_gas, x_gan, Int.cast_ofNat_Int, eq_self, Int.zero_lt_one, Bool.not_false, Bool.not_true, beq_self_eq_true, WI, IA, DI, DA, CI]
theorem gexact_i {b b' : Nat} (h : bits .andNot .u64 (b : Int) 9223372036854775808 = (b' : Int)) (hi : fInf b' = true) : Sat CT false 38 [F64 b] (.tup [.agg [Bo false, .v (.slice none 0 0), I64 0], Bo false]) := by
  refine sat_of gauss_exact.ok (by simp) ?_
  have DD := gauss_exact.dr
  simp only [drP, drPx, drPt, drR, drS, drT, bodyOf, Tryd.f38, Nat.reduceEqDiff, reduceIte, true_and, and_true] at DD
  have a1 := isinf_s h
  rw [hi] at a1
  simp -implicitDefEqProofs only [go_sem, simprocAttr, -Int.reducePow, Tryd.f38, DD, x_app, x_ga0, x_gas, x_gan, Int.cast_ofNat_Int, eq_self, Int.zero_lt_one, Bool.not_false, Bool.not_true, beq_self_eq_true, WI, IA, DI, DA, CI]
  refine callK_q math_IsInf.call (a1) rfl rfl ?_
  simp -implicitDefEqProofs only [go_sem, simprocAttr, -Int.reducePow, DD, x_app, x_ga0, x_gas, x_gan, Int.cast_ofNat_Int, eq_self, Int.zero_lt_one, Bool.not_false, Bool.not_true, beq_self_eq_true, WI, IA, DI, DA, CI]
theorem gExact_s {b1 b2 : Nat} (h1 : Sat CT false 38 [F64 b1] (.tup [DI x, Bo true])) (h2 : Sat CT false 38 [F64 b2] (.tup [DI y, Bo true])) : Sat CT false 9 [.v (.complex .f64 b1 b2)] (.tup [CI ⟨x, y⟩, Bo true]) := by
  refine sat_of gauss_Exact.ok (by simp) ?_
  have DD := gauss_Exact.dr
  simp only [drP, drPx, drPt, drR, drS, drT, bodyOf, Tryd.f9, Nat.reduceEqDiff, reduceIte, true_and, and_true] at DD
  simp -implicitDefEqProofs only [go_sem, simprocAttr, -Int.reducePow, Tryd.f9, DD, x_app, x_ga0, x_gas, x_gan, Int.cast_ofNat_Int, eq_self, Int.zero_lt_one, Bool.not_false, Bool.not_true, beq_self_eq_true, WI, IA, DI, DA, CI]
  refine callK_q gauss_exact.call (h1) rfl rfl ?_
  simp -implicitDefEqProofs only [go_sem, simprocAttr, -Int.reducePow, DD, x_app, x_ga0, x_gas, x_gan, Int.cast_ofNat_Int, eq_self, Int.zero_lt_one, Bool.not_false, Bool.not_true, beq_self_eq_true, WI, IA, DI, DA, CI]
  refine callK_q gauss_exact.call (h2) rfl rfl ?_
  simp -implicitDefEqProofs only [go_sem, simprocAttr, -Int.reducePow, DD, x_app, x_ga0, x_gas, x_gan, Int.cast_ofNat_Int, eq_self, Int.zero_lt_one, Bool.not_false, Bool.not_true, beq_self_eq_true, WI, IA, DI, DA, CI]
theorem gExact_n {b1 b2 : Nat} (h1 : Sat CT false 38 [F64 b1] (.tup [.agg [Bo false, .v (.slice none 0 0), I64 0], Bo false])) (h2 : Sat CT false 38 [F64 b2] (.tup [DI y, Bo true])) : Sat CT false 9 [.v (.complex .f64 b1 b2)] (.tup [.agg [Bo false, .v (.slice none 0 0), I64 0, Bo false, .v (.slice none 0 0), I64 0], Bo false]) := by
  refine sat_of gauss_Exact.ok (by simp) ?_
  have DD := gauss_Exact.dr
  simp only [drP, drPx, drPt, drR, drS, drT, bodyOf, Tryd.f9, Nat.reduceEqDiff, reduceIte, true_and, and_true] at DD
  simp -implicitDefEqProofs only [go_sem, simprocAttr, -Int.reducePow, Tryd.f9, DD, x_app, x_ga0, x_gas, x_gan, Int.cast_ofNat_Int, eq_self, Int.zero_lt_one, Bool.not_false, Bool.not_true, beq_self_eq_true, WI, IA, DI, DA, CI]
  refine callK_q gauss_exact.call (h1) rfl rfl ?_
  simp -implicitDefEqProofs only [go_sem, simprocAttr, -Int.reducePow, DD, x_app, x_ga0, x_gas, x_gan, Int.cast_ofNat_Int, eq_self, Int.zero_lt_one, Bool.not_false, Bool.not_true, beq_self_eq_true, WI, IA, DI, DA, CI]
  refine callK_q gauss_exact.call (h2) rfl rfl ?_
  simp -implicitDefEqProofs only [go_sem, simprocAttr, -Int.reducePow, DD, x_app, x_ga0, x_gas, x_gan, Int.cast_ofNat_Int, eq_self, Int.zero_lt_one, Bool.not_false, Bool.not_true, beq_self_eq_true, WI, IA, DI, DA, CI]
theorem gfloat_s {r : Nat} (hm : bl (dnum x).natAbs ≤ 53) (he : -5000 ≤ dexp x ∧ dexp x ≤ 5000) (hL : Sat CT false 62 [F64 (floatOfInt .f64 (dnum x)), I64 (dexp x)] (F64 r)) : Sat CT false 42 [DI x] (F64 r) := by
  refine sat_of gauss_float.ok (by simp) ?_
  have DD := gauss_float.dr
  simp only [drP, drPx, drPt, drR, drS, drT, bodyOf, Tryd.f42, Nat.reduceEqDiff, reduceIte, true_and, and_true] at DD
  have hlt : (dnum x).natAbs < 2 ^ 53 := Nat.lt_of_lt_of_le (bl_lt _) (Nat.pow_le_pow_right (by decide) hm)
  obtain ⟨b1, b2⟩ := Lz_64 (v := dnum x) (Nat.lt_trans hlt (by decide))
  have m1 := dmake_s (dnum x) (dexp x) b1 b2 (by omega)
  rw [dv_of] at m1
  have n1 := bits_sat (lim (dnum x).natAbs) (Lm_lim _) (by have : (lim (dnum x).natAbs).length = Lz (dnum x) := rfl; omega)
  rw [nv_lim] at n1
  have s1 := shr_r (RI_W (z := dnum x) (Nat.le_refl _)) 0 (Nat.le_of_lt b2)
  rw [show fq (dnum x) (2 ^ shN 0) = dnum x by rw [show shN 0 = 0 from rfl]; unfold fq; simp] at s1
  have s2 := small_y (RI_W (z := dnum x) (Nat.le_refl _)) (Nat.le_of_lt b2) (by omega) (by omega)
  have w1 : IntKind.i64.wrap ((bl (dnum x).natAbs : Int) - 53) = (bl (dnum x).natAbs : Int) - 53 := wrap_i64 (by omega) (by omega)
  have w2 : max ((bl (dnum x).natAbs : Int) - 53) 0 = 0 := by omega
  have w3 : IntKind.i64.wrap (dexp x + 0) = dexp x := by rw [wrap_i64 (by omega) (by omega)]; omega
  have w3' : IntKind.i64.wrap (dexp x) = dexp x := wrap_i64 (by omega) (by omega)
  have w4 : min (max (dexp x) (-5000)) 5000 = dexp x := by omega
  simp -implicitDefEqProofs only [go_sem, simprocAttr, -Int.reducePow, Tryd.f42, DD, x_app, x_ga0, x_gas, x_gan, Int.cast_ofNat_Int, eq_self, Int.zero_lt_one, Bool.not_false, Bool.not_true, beq_self_eq_true, WI, IA, DI, DA, CI]
  refine callK_q dyad_Make.call (m1) rfl rfl ?_
  simp -implicitDefEqProofs only [go_sem, simprocAttr, -Int.reducePow, DD, x_app, x_ga0, x_gas, x_gan, Int.cast_ofNat_Int, eq_self, Int.zero_lt_one, Bool.not_false, Bool.not_true, beq_self_eq_true, WI, IA, DI, DA, CI]
  refine callK_q nat_Bits.call (n1) rfl rfl ?_
  simp -implicitDefEqProofs only [go_sem, simprocAttr, -Int.reducePow, DD, x_app, x_ga0, x_gas, x_gan, Int.cast_ofNat_Int, eq_self, Int.zero_lt_one, Bool.not_false, Bool.not_true, beq_self_eq_true, WI, IA, DI, DA, CI, w1, w2]
  refine callK_q whole_Shr.call (s1) rfl rfl ?_
  simp -implicitDefEqProofs only [go_sem, simprocAttr, -Int.reducePow, DD, x_app, x_ga0, x_gas, x_gan, Int.cast_ofNat_Int, eq_self, Int.zero_lt_one, Bool.not_false, Bool.not_true, beq_self_eq_true, WI, IA, DI, DA, CI]
  refine callK_q whole_Small.call (s2) rfl rfl ?_
  simp -implicitDefEqProofs only [go_sem, simprocAttr, -Int.reducePow, DD, x_app, x_ga0, x_gas, x_gan, Int.cast_ofNat_Int, eq_self, Int.zero_lt_one, Bool.not_false, Bool.not_true, beq_self_eq_true, WI, IA, DI, DA, CI, Int.add_zero, w3, w3', w4]
  refine callK_q math_Ldexp.call (hL) rfl rfl ?_
  simp -implicitDefEqProofs only [go_sem, simprocAttr, -Int.reducePow, DD, x_app, x_ga0, x_gas, x_gan, Int.cast_ofNat_Int, eq_self, Int.zero_lt_one, Bool.not_false, Bool.not_true, beq_self_eq_true, WI, IA, DI, DA, CI]
theorem gFloat_s {r1 r2 : Nat} (h1 : Sat CT false 42 [DI z.re] (F64 r1)) (h2 : Sat CT false 42 [DI z.im] (F64 r2)) : Sat CT false 15 [CI z] (.v (.complex .f64 r1 r2)) := by
  refine sat_of gauss_Float.ok (by simp) ?_
  have DD := gauss_Float.dr
  simp only [drP, drPx, drPt, drR, drS, drT, bodyOf, Tryd.f15, Nat.reduceEqDiff, reduceIte, true_and, and_true] at DD
  simp -implicitDefEqProofs only [go_sem, simprocAttr, -Int.reducePow, Tryd.f15, DD, x_app, x_ga0, x_gas, x_gan, Int.cast_ofNat_Int, eq_self, Int.zero_lt_one, Bool.not_false, Bool.not_true, beq_self_eq_true, WI, IA, DI, DA, CI]
  refine callK_q gauss_float.call (h1) rfl rfl ?_
  simp -implicitDefEqProofs only [go_sem, simprocAttr, -Int.reducePow, DD, x_app, x_ga0, x_gas, x_gan, Int.cast_ofNat_Int, eq_self, Int.zero_lt_one, Bool.not_false, Bool.not_true, beq_self_eq_true, WI, IA, DI, DA, CI]
  refine callK_q gauss_float.call (h2) rfl rfl ?_
  simp -implicitDefEqProofs only [go_sem, simprocAttr, -Int.reducePow, DD, x_app, x_ga0, x_gas, x_gan, Int.cast_ofNat_Int, eq_self, Int.zero_lt_one, Bool.not_false, Bool.not_true, beq_self_eq_true, WI, IA, DI, DA, CI]
end Go.Ab

set_option linter.unusedVariables false
set_option maxRecDepth 20000
set_option linter.unusedSimpArgs false
set_option linter.unusedSectionVars false
namespace Go.Ab
open Go.Proofs
open Cx (zero one)
attribute [-go_sem] appF newsF
variable {a b : AV} {x y r s t : Dyadic} {z w c d e : Cx} {B C n m : Nat}
/-! points: what is known of them, what comes in -/
theorem DB.add' (h : DB x B) (g : DB y C) : DB (x + y) (max B C + 1) := (h.mono (Nat.le_max_left B C)).add (g.mono (Nat.le_max_right B C))
theorem CB.add' (h : CB z B) (g : CB w C) : CB (z + w) (max B C + 1) := ⟨DB.add' h.1 g.1, DB.add' h.2 g.2⟩
def zI (a b : Int) : Cx := ⟨dv a 0, dv b 0⟩
theorem dvm0 (a b : Int) : dv a 0 * dv b 0 = dv (a * b) 0 := by rw [dv_mul, Int.add_zero]
theorem zI_mul (a b c d : Int) : zI a b * zI c d = zI (a * c - b * d) (a * d + b * c) := Cx.ext' (by show dv a 0 * dv c 0 - dv b 0 * dv d 0 = _; rw [dvm0, dvm0, dv_sub]; rfl) (by show dv a 0 * dv d 0 + dv b 0 * dv c 0 = _; rw [dvm0, dvm0, dv_add]; rfl)
theorem gsame_r (ha : RC a z B) (hb : RC b w C) (hB : B ≤ 19000) (hC : C ≤ 19000) : Sat CT false 19 [a, b] (Bo (decide (z = w))) := by
  refine sat_of gauss_Same.ok (by simp) ?_
  have DD := gauss_Same.dr
  simp only [drP, drPx, drPt, drR, drS, drT, bodyOf, Tryd.f19, Nat.reduceEqDiff, reduceIte, true_and, and_true] at DD
  obtain ⟨n, l, e, m, k, f, rfl, hr, hi⟩ := ha
  obtain ⟨n', l', e', m', k', f', rfl, gr, gi⟩ := hb
  have u1 := dsame_r hr gr hB hC
  have u2 := dsame_r hi gi hB hC
  by_cases h1 : z.re = w.re
  · have e : decide (z = w) = decide (z.im = w.im) := decide_eq_decide.2 ⟨fun h => by rw [h], fun h => Cx.ext' h1 h⟩
    rw [decide_eq_true h1] at u1
    rw [e]
    simp -implicitDefEqProofs only [go_sem, simprocAttr, -Int.reducePow, Tryd.f19, DD, List.take_succ_cons, List.drop_succ_cons]
    refine callK_q dyad_Same.call (u1) rfl rfl ?_
    simp -implicitDefEqProofs only [go_sem, simprocAttr, -Int.reducePow, DD, List.take_succ_cons, List.drop_succ_cons]
    refine callK_q dyad_Same.call (u2) rfl rfl ?_
    simp -implicitDefEqProofs only [go_sem, simprocAttr, -Int.reducePow, DD, List.take_succ_cons, List.drop_succ_cons]
  · rw [decide_eq_false h1] at u1
    rw [decide_eq_false (show ¬ z = w from fun h => h1 (by rw [h]))]
    simp -implicitDefEqProofs only [go_sem, simprocAttr, -Int.reducePow, Tryd.f19, DD, List.take_succ_cons, List.drop_succ_cons]
    refine callK_q dyad_Same.call (u1) rfl rfl ?_
    simp -implicitDefEqProofs only [go_sem, simprocAttr, -Int.reducePow, DD, List.take_succ_cons, List.drop_succ_cons]
abbrev few1 (l : List Nat) (e : Int) : Prop := l.length ≤ 10 ∧ -1000 ≤ e ∧ e ≤ 1000
abbrev fewR (r : Raw) : Prop := few1 r.l r.e ∧ few1 r.k r.f
def zpw (z : Cx) : Nat → Cx
  | 0 => zI 1 0
  | n + 1 => zpw z n * z
theorem zI_db1 {a b : Int} (h : a.natAbs < 2 ^ 64) (g : b.natAbs < 2 ^ 64) : CB (zI a b) 64 := ⟨DB.raw (L := 64) (E := 0) h (by decide) (by decide), DB.raw (L := 64) (E := 0) g (by decide) (by decide)⟩
theorem zpw_cb (h : CB z B) : ∀ n, CB (zpw z n) (64 + n * (B + 1))
  | 0 => (zI_db1 (by decide) (by decide)).mono (by omega)
  | n + 1 => by
    have h1 := (zpw_cb h n).mul h
    have e : (n + 1) * (B + 1) = n * (B + 1) + (B + 1) := Nat.succ_mul ..
    exact ⟨h1.1.mono (by omega), h1.2.mono (by omega)⟩
set_option maxHeartbeats 1000000 in
theorem gpow_r (ha : RC a z B) (hB : B ≤ 1400) (k : Int) (hk : k ≤ 8) : Sat CT false 31 [a, I64 k] (CI (zpw z k.toNat)) := by
  refine sat_of gauss_Pow.ok (by simp) ?_
  have DD := gauss_Pow.dr
  simp only [drP, drPx, drPt, drR, drS, drT, bodyOf, Tryd.f31, Nat.reduceEqDiff, reduceIte, true_and, and_true] at DD
  have ha0 := ha
  have hzb := ha.cb
  have p0 := pld_RC ha
  obtain ⟨s, l, e, t, kk, gg, rfl, _⟩ := ha
  have o1 : Sat CT false 17 [I64 1, I64 0] (CI (zpw z 0)) := gof_sat 1 0 (by decide) (by decide) (by decide) (by decide)
  obtain ⟨K, hK⟩ : ∃ K : Nat, k.toNat = K := ⟨_, rfl⟩
  rw [hK]
  have hmx : min (max k 0) 64 = (K : Int) := by omega
  have hK8 : K ≤ 8 := by omega
  have mu := fun i (hi : i < K) => gmul_r (RC_C (zpw_cb hzb i)) ha0 (by have := Nat.mul_le_mul (show i ≤ 7 by omega) (show B + 1 ≤ 1401 by omega); omega)
  simp -implicitDefEqProofs only [go_sem, simprocAttr, -Int.reducePow, Tryd.f31, DD, x_app, x_ga0, x_gas, x_gan, Int.cast_ofNat_Int, eq_self, Int.zero_lt_one, Bool.not_false, Bool.not_true, beq_self_eq_true]
  refine callK_pl gauss_Of.call (o1) (pl2 pld_int pld_int) ?_
  simp -implicitDefEqProofs only [go_sem, simprocAttr, -Int.reducePow, DD, x_app, x_ga0, x_gas, x_gan, Int.cast_ofNat_Int, eq_self, Int.zero_lt_one, Bool.not_false, Bool.not_true, beq_self_eq_true, hmx]
  refine loop_of aW0_mono (fun q σ => ∃ sl i, σ = ⟨sl, [⟨[Bo s, U32 l, I64 e, Bo t, U32 kk, I64 gg], true, true⟩, ⟨zc6, true, true⟩, ⟨CIc (zpw z i), true, true⟩]⟩ ∧ q = K - i ∧ i ≤ K ∧ look sl 2 = .ptr 0 0 ∧ look sl 4 = .ptr 1 0 ∧ look sl 5 = .ptr 2 0 ∧ look sl 9 = I64 (K : Nat) ∧ look sl 10 = I64 (i : Nat)) ?_ (n := K)
    ⟨_, 0, rfl, rfl, Nat.zero_le _, by simp [x_look], by simp [x_look], by simp [x_look], by simp [x_look], by simp [x_look]⟩
  rintro q _ ⟨sl, i, rfl, rfl, hi, k2, k4, k5, k9, k10⟩
  by_cases hid : i = K
  · subst hid
    simp -implicitDefEqProofs only [go_sem, simprocAttr, -Int.reducePow, DD, x_app, x_ga0, x_gas, x_gan, Int.cast_ofNat_Int, eq_self, Int.zero_lt_one, Bool.not_false, Bool.not_true, beq_self_eq_true, WI, IA, DI, DA, CI, k2, k4, k5, k9, k10, Int.lt_irrefl, zc6, CIc]
  · have c1 : (i : Int) < (K : Int) := by omega
    have c3 : IntKind.i64.wrap ((i : Int) + 1) = ((i + 1 : Nat) : Int) := by rw [wrap_i64 (by omega) (by omega)]; omega
    have q1 := mu i (by omega)
    have q1 : Sat CT false 21 [CI (zpw z i), .agg [Bo s, U32 l, I64 e, Bo t, U32 kk, I64 gg]] (CI (zpw z (i + 1))) := q1
    simp -implicitDefEqProofs only [go_sem, simprocAttr, -Int.reducePow, DD, x_app, x_ga0, x_gas, x_gan, Int.cast_ofNat_Int, eq_self, Int.zero_lt_one, Bool.not_false, Bool.not_true, beq_self_eq_true, k2, k4, k5, k9, k10, c1, c3]
    refine callK_pl gauss_Mul.call (q1) (pl2 (pld_CI _) p0) ?_
    simp -implicitDefEqProofs only [go_sem, simprocAttr, -Int.reducePow, DD, x_app, x_ga0, x_gas, x_gan, Int.cast_ofNat_Int, eq_self, Int.zero_lt_one, Bool.not_false, Bool.not_true, beq_self_eq_true, k2, k4, k5, k9, k10, c1, c3]
    exact ⟨K - (i + 1), by omega, _, i + 1, rfl, rfl, by omega, by simp [x_look, k2], by simp [x_look, k4], by simp [x_look, k5], by simp [x_look, k9], by simp [x_look]⟩
end Go.Ab

set_option linter.unusedVariables false
set_option maxRecDepth 20000
set_option linter.unusedSimpArgs false
set_option linter.unusedSectionVars false
namespace Go.Ab
open Go.Proofs
open Cx (zero one)
attribute [-go_sem] appF newsF
variable {a b : AV} {x y r s t : Dyadic} {z w c d e : Cx} {B C n m : Nat}
/-! points: what is known of them -/
theorem k8_fr15 : Sat CT false 59 [F64 4609434218613702656] (.tup [F64 4604930618986332160, I64 1]) :=
  frexp_s (b' := 4609434218613702656) (b1 := 4609434218613702656) (m1 := 2251799813685248) (r := 4604930618986332160) (E := 1023) (ne := 0) (by decide) (by decide) (by decide) (by decide) (norm_s (b' := 4609434218613702656) (by decide) (by decide)) (by decide) (by decide) (by decide) (by decide) (by decide)
theorem k8_ld15 : Sat CT false 62 [F64 4604930618986332160, I64 53] (F64 4843621399236968448) :=
  ldexp_s (b' := 4604930618986332160) (b1 := 4604930618986332160) (E := 1022) (ne := 0) (X := 52) (m1 := 2251799813685248) (r := 4843621399236968448) (by decide) (by decide) (by decide) (by decide) (by decide) (norm_s (b' := 4604930618986332160) (by decide) (by decide)) (by decide) (by decide) (by decide) (by decide) (by decide) (by decide) (by decide) (by decide) (by decide) (by decide) (by decide)
theorem k8_ex15 : Sat CT false 38 [F64 4609434218613702656] (.tup [DI (dv 6755399441055744 (-52)), Bo true]) :=
  gexact_s (b' := 4609434218613702656) (fe := 1) (by decide) (by decide) (by decide) k8_fr15 k8_ld15 (by decide) (by decide) (by decide)
theorem k8_fr2 : Sat CT false 59 [F64 13835058055282163712] (.tup [F64 13826050856027422720, I64 2]) :=
  frexp_s (b' := 4611686018427387904) (b1 := 13835058055282163712) (m1 := 9223372036854775808) (r := 13826050856027422720) (E := 1024) (ne := 0) (by decide) (by decide) (by decide) (by decide) (norm_s (b' := 4611686018427387904) (by decide) (by decide)) (by decide) (by decide) (by decide) (by decide) (by decide)
theorem k8_ld2 : Sat CT false 62 [F64 13826050856027422720, I64 53] (F64 14064741636278059008) :=
  ldexp_s (b' := 4602678819172646912) (b1 := 13826050856027422720) (E := 1022) (ne := 0) (X := 52) (m1 := 9223372036854775808) (r := 14064741636278059008) (by decide) (by decide) (by decide) (by decide) (by decide) (norm_s (b' := 4602678819172646912) (by decide) (by decide)) (by decide) (by decide) (by decide) (by decide) (by decide) (by decide) (by decide) (by decide) (by decide) (by decide) (by decide)
theorem k8_ex2 : Sat CT false 38 [F64 13835058055282163712] (.tup [DI (dv (-4503599627370496) (-51)), Bo true]) :=
  gexact_s (b' := 4611686018427387904) (fe := 2) (by decide) (by decide) (by decide) k8_fr2 k8_ld2 (by decide) (by decide) (by decide)
theorem k8_exi : Sat CT false 38 [F64 9218868437227405312] (.tup [.agg [Bo false, .v (.slice none 0 0), I64 0], Bo false]) := gexact_i (b' := 9218868437227405312) (by decide) (by decide)
theorem k8_ex0 : Sat CT false 38 [F64 0] (.tup [DI (dv 0 (-53)), Bo true]) :=
  gexact_s (b' := 0) (fe := 0) (by decide) (by decide) (by decide) (frexp_0 (by decide)) (ldexp_0 53 (by decide)) (by decide) (by decide) (by decide)
theorem k8_ld3 : Sat CT false 62 [F64 4613937818241073152, I64 (-1)] (F64 4609434218613702656) :=
  ldexp_s (b' := 4613937818241073152) (b1 := 4613937818241073152) (E := 1024) (ne := 0) (X := 0) (m1 := 2251799813685248) (r := 4609434218613702656) (by decide) (by decide) (by decide) (by decide) (by decide) (norm_s (b' := 4613937818241073152) (by decide) (by decide)) (by decide) (by decide) (by decide) (by decide) (by decide) (by decide) (by decide) (by decide) (by decide) (by decide) (by decide)
theorem k8_ld1 : Sat CT false 62 [F64 13830554455654793216, I64 1] (F64 13835058055282163712) :=
  ldexp_s (b' := 4607182418800017408) (b1 := 13830554455654793216) (E := 1023) (ne := 0) (X := 1) (m1 := 9223372036854775808) (r := 13835058055282163712) (by decide) (by decide) (by decide) (by decide) (by decide) (norm_s (b' := 4607182418800017408) (by decide) (by decide)) (by decide) (by decide) (by decide) (by decide) (by decide) (by decide) (by decide) (by decide) (by decide) (by decide) (by decide)
theorem k8_x : dv 6755399441055744 (-52) = dv 3 (-1) := dv_shift 3 (-52) 51
theorem k8_y : dv (-4503599627370496) (-51) = dv (-1) 1 := dv_shift (-1) (-51) 52
theorem k8_dx : dnum (dv 3 (-1)) = 3 ∧ dexp (dv 3 (-1)) = -1 := by decide
theorem k8_dy : dnum (dv (-1) 1) = -1 ∧ dexp (dv (-1) 1) = 1 := by decide
theorem k8_Fl : Sat CT false 15 [CI ⟨dv 3 (-1), dv (-1) 1⟩] (.v (.complex .f64 4609434218613702656 13835058055282163712)) := by
  refine gFloat_s (gfloat_s ?_ ?_ ?_) (gfloat_s ?_ ?_ ?_)
  · show bl (dnum (dv 3 (-1))).natAbs ≤ 53; rw [k8_dx.1]; decide
  · show -5000 ≤ dexp (dv 3 (-1)) ∧ dexp (dv 3 (-1)) ≤ 5000; rw [k8_dx.2]; decide
  · show Sat CT false _ [F64 (floatOfInt .f64 (dnum (dv 3 (-1)))), I64 (dexp (dv 3 (-1)))] _; rw [k8_dx.1, k8_dx.2]; exact k8_ld3
  · show bl (dnum (dv (-1) 1)).natAbs ≤ 53; rw [k8_dy.1]; decide
  · show -5000 ≤ dexp (dv (-1) 1) ∧ dexp (dv (-1) 1) ≤ 5000; rw [k8_dy.2]; decide
  · show Sat CT false _ [F64 (floatOfInt .f64 (dnum (dv (-1) 1))), I64 (dexp (dv (-1) 1))] _; rw [k8_dy.1, k8_dy.2]; exact k8_ld1
theorem k8_nrm : nrm ⟨dv 3 (-1), dv (-1) 1⟩ = dv 25 0 * dv 1 (-2) := by
  show dv 3 (-1) * dv 3 (-1) + dv (-1) 1 * dv (-1) 1 = _
  have e1 : dv (-1) 1 * dv (-1) 1 = dv 16 (-2) := by
    rw [dv_mul, show ((-1 : Int) * (-1)) = 1 from rfl, show ((1 : Int) + 1) = -2 + ((4 : Nat) : Int) from rfl, ← dv_shift]; rfl
  have e2 : dv 3 (-1) * dv 3 (-1) = dv 9 (-2) := by rw [dv_mul]; rfl
  have e3 : dv 25 0 * dv 1 (-2) = dv 25 (-2) := by rw [dv_mul]; rfl
  rw [e1, e2, e3, dv_add]; rfl
theorem k8_pow : zpw (zI 0 1) 4 = zI 1 0 := by
  show zI 1 0 * zI 0 1 * zI 0 1 * zI 0 1 * zI 0 1 = _
  rw [zI_mul, zI_mul, zI_mul, zI_mul]; rfl
theorem db1 {v e : Int} (h : v.natAbs < 2 ^ 64) (h1 : -64 ≤ e) (h2 : e ≤ 64) : DB (dv v e) 200 := DB.raw (L := 64) (E := 64) h (by omega) (by decide)
set_option maxHeartbeats 4000000 in
theorem known8_s : Sat CT false 7 [] (Bo true) := by
  refine sat_of annuluslaw8_known.ok (by simp) ?_
  have DD := annuluslaw8_known.dr
  simp only [drP, drPx, drPt, drR, drS, drT, bodyOf, Tryd.f7, Nat.reduceEqDiff, reduceIte, true_and, and_true] at DD
  have o1 : Sat CT false 17 [I64 0, I64 1] (CI (zI 0 1)) := gof_sat 0 1 (by decide) (by decide) (by decide) (by decide)
  have o2 : Sat CT false 17 [I64 1, I64 0] (CI (zI 1 0)) := gof_sat 1 0 (by decide) (by decide) (by decide) (by decide)
  have x1 := gExact_s k8_ex15 k8_ex2
  rw [k8_x, k8_y] at x1
  have i1 := inf_s 1 (by decide)
  have x2 := gExact_n k8_exi k8_ex0
  have cI : CB (zI 0 1) 64 := zI_db1 (by decide) (by decide)
  have c1 : CB (zI 1 0) 64 := zI_db1 (by decide) (by decide)
  have cE : CB ⟨dv 3 (-1), dv (-1) 1⟩ 200 := ⟨db1 (v := 3) (e := -1) (by decide) (by decide) (by decide), db1 (v := -1) (e := 1) (by decide) (by decide) (by decide)⟩
  have m1 := gmul_r (RC_C cI) (RC_C cI) (by decide)
  rw [zI_mul, show zI (0 * 0 - 1 * 1) (0 * 1 + 1 * 0) = zI (-1) 0 from rfl] at m1
  have r1 : Sat CT false 35 [I64 (-1), I64 0] (CI (zI (-1) 0)) := rof8_sat (-1) 0 (by decide) (by decide) (by decide) (by decide)
  have e1 := requal8 (zI_db1 (a := -1) (b := 0) (by decide) (by decide)) (by decide)
  have n1 := gnorm_r (RC_C cE) (by decide)
  rw [k8_nrm] at n1
  have r2 := rof4_sat 25 (by decide) (by decide)
  have r3 := rscale4_k (db1 (v := 25) (e := 0) (by decide) (by decide) (by decide)) (-2) (by decide) (by decide)
  have bN : DB (dv 25 0 * dv 1 (-2)) 400 := (db1 (v := 25) (e := 0) (by decide) (by decide) (by decide)).mul (db1 (v := 1) (e := -2) (by decide) (by decide) (by decide))
  have e2 := requal4d bN bN (by decide) (by decide)
  rw [decide_eq_true rfl] at e2
  have f1 := k8_Fl
  have g1 := gneg_r (RC_C cI) (by decide)
  have g2 := gadd_r (RC_C cI) (RC_C cI.neg) (by decide) (by decide)
  have g3 := gzero_r (RC_C (CB.add' cI cI.neg)) (by decide)
  rw [show zI 0 1 + -(zI 0 1) = zero from Cx.ext' (by show dv 0 0 + -(dv 0 0) = 0; grind) (by show dv 1 0 + -(dv 1 0) = 0; grind)] at g2 g3
  rw [decide_eq_true rfl] at g3
  have w1 := gpow_r (RC_C cI) (by decide) 4 (by decide)
  rw [show (4 : Int).toNat = 4 from rfl, k8_pow] at w1
  have s1 := gsame_r (RC_C c1) (RC_C c1) (by decide) (by decide)
  rw [decide_eq_true rfl] at s1
  have q1 : (FloatKind.f64.format.order 4609434218613702656 4609434218613702656 == some .eq) = true := by decide
  have q2 : (FloatKind.f64.format.order 13835058055282163712 13835058055282163712 == some .eq) = true := by decide
  simp -implicitDefEqProofs only [go_sem, simprocAttr, -Int.reducePow, Tryd.f7, DD]
  refine callK_q gauss_Of.call (o1) rfl rfl ?_
  simp -implicitDefEqProofs only [go_sem, simprocAttr, -Int.reducePow, DD]
  refine callK_q gauss_Exact.call (x1) rfl rfl ?_
  simp -implicitDefEqProofs only [go_sem, simprocAttr, -Int.reducePow, DD]
  refine callK_q math_Inf.call (i1) rfl rfl ?_
  simp -implicitDefEqProofs only [go_sem, simprocAttr, -Int.reducePow, DD]
  refine callK_q gauss_Exact.call (x2) rfl rfl ?_
  simp -implicitDefEqProofs only [go_sem, simprocAttr, -Int.reducePow, DD]
  refine callK_q gauss_Mul.call (m1) rfl rfl ?_
  simp -implicitDefEqProofs only [go_sem, simprocAttr, -Int.reducePow, DD]
  refine callK_q annulusref8_Of.call (r1) rfl rfl ?_
  simp -implicitDefEqProofs only [go_sem, simprocAttr, -Int.reducePow, DD]
  refine callK_q annulusref8_Equal.call (e1) rfl rfl ?_
  simp -implicitDefEqProofs only [go_sem, simprocAttr, -Int.reducePow, DD]
  refine callK_q gauss_Norm.call (n1) rfl rfl ?_
  simp -implicitDefEqProofs only [go_sem, simprocAttr, -Int.reducePow, DD]
  refine callK_q annulusref4_Of.call (r2) rfl rfl ?_
  simp -implicitDefEqProofs only [go_sem, simprocAttr, -Int.reducePow, DD]
  refine callK_q annulusref4_Scale.call (r3) rfl rfl ?_
  simp -implicitDefEqProofs only [go_sem, simprocAttr, -Int.reducePow, DD]
  refine callK_q annulusref4_Equal.call (e2) rfl rfl ?_
  simp -implicitDefEqProofs only [go_sem, simprocAttr, -Int.reducePow, DD]
  refine callK_q gauss_Float.call (f1) rfl rfl ?_
  simp -implicitDefEqProofs only [go_sem, simprocAttr, -Int.reducePow, DD, q1, q2]
  refine callK_q gauss_Neg.call (g1) rfl rfl ?_
  simp -implicitDefEqProofs only [go_sem, simprocAttr, -Int.reducePow, DD]
  refine callK_q gauss_Add.call (g2) rfl rfl ?_
  simp -implicitDefEqProofs only [go_sem, simprocAttr, -Int.reducePow, DD]
  refine callK_q gauss_Zero.call (g3) rfl rfl ?_
  simp -implicitDefEqProofs only [go_sem, simprocAttr, -Int.reducePow, DD]
  refine callK_q gauss_Pow.call (w1) rfl rfl ?_
  simp -implicitDefEqProofs only [go_sem, simprocAttr, -Int.reducePow, DD]
  refine callK_q gauss_Of.call (o2) rfl rfl ?_
  simp -implicitDefEqProofs only [go_sem, simprocAttr, -Int.reducePow, DD]
  refine callK_q gauss_Same.call (s1) rfl rfl ?_
  simp -implicitDefEqProofs only [go_sem, simprocAttr, -Int.reducePow, DD]
end Go.Ab

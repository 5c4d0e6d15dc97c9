/- The facts of this seat's functions and types that the walks use: by program, out of the translation. -/
import Derived.Test.YtikhbokeaikcpaaDoorA3
import Derived.Test.YtikhbokeaikcpaaDoorProg
set_option linter.unusedVariables false
namespace Go.Ab
open Go.Proofs
theorem mix : Tryd.prog.follows .mixedOrders = true := by kernel_rfl
theorem tk2 : tk Tryd.prog 2 = some ⟨false, 1, 8, [.int .i64 0], .int .i64⟩ := by kernel_rfl
theorem tk3 : tk Tryd.prog 3 = some ⟨false, 1, 8, [.int .i64 0], .int .i64⟩ := by kernel_rfl
theorem tk4 : tk Tryd.prog 4 = some ⟨false, 1, 1, [.bool false], .bool⟩ := by kernel_rfl
theorem tk5 : tk Tryd.prog 5 = some ⟨false, 1, 1, [.int .u8 0], .int .u8⟩ := by kernel_rfl
theorem tk6 : tk Tryd.prog 6 = some ⟨false, 1, 1, [.int .u8 0], .int .u8⟩ := by kernel_rfl
theorem tk7 : tk Tryd.prog 7 = some ⟨true, 4, 24, [.int .i64 0, .int .i64 0, .bool false, .int .u8 0], .st [(0, 1), (1, 1), (2, 1), (3, 1)]⟩ := by kernel_rfl
theorem tk8 : tk Tryd.prog 8 = some ⟨true, 4, 24, [.int .i64 0, .int .i64 0, .bool false, .int .u8 0], .st [(0, 1), (1, 1), (2, 1), (3, 1)]⟩ := by kernel_rfl
theorem tk12 : tk Tryd.prog 12 = some ⟨false, 1, 8, [.int .u64 0], .int .u64⟩ := by kernel_rfl
theorem tk21 : tk Tryd.prog 21 = some ⟨false, 1, 4, [.int .i32 0], .int .i32⟩ := by kernel_rfl
theorem tk22 : tk Tryd.prog 22 = some ⟨false, 1, 8, [.int .u64 0], .int .u64⟩ := by kernel_rfl
theorem tk24 : tk Tryd.prog 24 = some ⟨false, 1, 8, [.float .f64 0], .flt .f64⟩ := by kernel_rfl
theorem tk26 : tk Tryd.prog 26 = some ⟨false, 1, 24, [.slice none 0 0], .sl 67⟩ := by kernel_rfl
theorem tk27 : tk Tryd.prog 27 = some ⟨true, 2, 32, [.bool false, .slice none 0 0], .st [(0, 1), (1, 1)]⟩ := by kernel_rfl
theorem tk28 : tk Tryd.prog 28 = some ⟨true, 2, 32, [.bool false, .slice none 0 0], .st [(0, 1), (1, 1)]⟩ := by kernel_rfl
theorem tk29 : tk Tryd.prog 29 = some ⟨true, 3, 40, [.bool false, .slice none 0 0, .int .i64 0], .st [(0, 2), (2, 1)]⟩ := by kernel_rfl
theorem tk30 : tk Tryd.prog 30 = some ⟨true, 3, 40, [.bool false, .slice none 0 0, .int .i64 0], .st [(0, 2), (2, 1)]⟩ := by kernel_rfl
theorem tk31 : tk Tryd.prog 31 = some ⟨true, 6, 80, [.bool false, .slice none 0 0, .int .i64 0, .bool false, .slice none 0 0, .int .i64 0], .st [(0, 3), (3, 3)]⟩ := by kernel_rfl
theorem tk32 : tk Tryd.prog 32 = some ⟨true, 6, 80, [.bool false, .slice none 0 0, .int .i64 0, .bool false, .slice none 0 0, .int .i64 0], .st [(0, 3), (3, 3)]⟩ := by kernel_rfl
theorem tk44 : tk Tryd.prog 44 = some ⟨false, 1, 2, [.int .i16 0], .int .i16⟩ := by kernel_rfl
theorem tk65 : tk Tryd.prog 65 = some ⟨false, 1, 8, [.int .u64 0], .int .u64⟩ := by kernel_rfl
theorem tk67 : tk Tryd.prog 67 = some ⟨false, 1, 4, [.int .u32 0], .int .u32⟩ := by kernel_rfl
theorem tk94 : tk Tryd.prog 94 = some ⟨true, 4, 32, [.int .i64 0, .int .i64 0, .int .i64 0, .int .i64 0], .arr 4 3⟩ := by kernel_rfl
theorem tk96 : tk Tryd.prog 96 = some ⟨true, 32, 32, [.int .u8 0, .int .u8 0, .int .u8 0, .int .u8 0, .int .u8 0, .int .u8 0, .int .u8 0, .int .u8 0, .int .u8 0, .int .u8 0, .int .u8 0, .int .u8 0, .int .u8 0, .int .u8 0, .int .u8 0, .int .u8 0, .int .u8 0, .int .u8 0, .int .u8 0, .int .u8 0, .int .u8 0, .int .u8 0, .int .u8 0, .int .u8 0, .int .u8 0, .int .u8 0, .int .u8 0, .int .u8 0, .int .u8 0, .int .u8 0, .int .u8 0, .int .u8 0], .arr 32 5⟩ := by kernel_rfl
theorem tk100 : tk Tryd.prog 100 = some ⟨true, 0, 0, [], .arr 0 16⟩ := by kernel_rfl
theorem tk101 : tk Tryd.prog 101 = some ⟨true, 0, 0, [], .st [(0, 0)]⟩ := by kernel_rfl
theorem tk102 : tk Tryd.prog 102 = some ⟨true, 0, 0, [], .st [(0, 0)]⟩ := by kernel_rfl
theorem tk104 : tk Tryd.prog 104 = some ⟨false, 1, 1, [.int .u8 0], .int .u8⟩ := by kernel_rfl
theorem tk105 : tk Tryd.prog 105 = some ⟨false, 1, 1, [.int .u8 0], .int .u8⟩ := by kernel_rfl
theorem tk108 : tk Tryd.prog 108 = some ⟨false, 1, 4, [.int .i32 0], .int .i32⟩ := by kernel_rfl
theorem tk109 : tk Tryd.prog 109 = some ⟨false, 1, 4, [.int .i32 0], .int .i32⟩ := by kernel_rfl
theorem fd7_0 : fdOf Tryd.prog 7 0 = some (0, 2) := by kernel_rfl
theorem fd7_1 : fdOf Tryd.prog 7 1 = some (1, 3) := by kernel_rfl
theorem fd7_2 : fdOf Tryd.prog 7 2 = some (2, 4) := by kernel_rfl
theorem fd7_3 : fdOf Tryd.prog 7 3 = some (3, 6) := by kernel_rfl
theorem fd8_0 : fdOf Tryd.prog 8 0 = some (0, 2) := by kernel_rfl
theorem fd8_1 : fdOf Tryd.prog 8 1 = some (1, 3) := by kernel_rfl
theorem fd8_2 : fdOf Tryd.prog 8 2 = some (2, 4) := by kernel_rfl
theorem fd8_3 : fdOf Tryd.prog 8 3 = some (3, 6) := by kernel_rfl
theorem fd27_0 : fdOf Tryd.prog 27 0 = some (0, 4) := by kernel_rfl
theorem fd27_1 : fdOf Tryd.prog 27 1 = some (1, 26) := by kernel_rfl
theorem fd28_0 : fdOf Tryd.prog 28 0 = some (0, 4) := by kernel_rfl
theorem fd28_1 : fdOf Tryd.prog 28 1 = some (1, 26) := by kernel_rfl
theorem fd29_0 : fdOf Tryd.prog 29 0 = some (0, 28) := by kernel_rfl
theorem fd29_1 : fdOf Tryd.prog 29 1 = some (2, 3) := by kernel_rfl
theorem fd30_0 : fdOf Tryd.prog 30 0 = some (0, 28) := by kernel_rfl
theorem fd30_1 : fdOf Tryd.prog 30 1 = some (2, 3) := by kernel_rfl
theorem fd31_0 : fdOf Tryd.prog 31 0 = some (0, 30) := by kernel_rfl
theorem fd31_1 : fdOf Tryd.prog 31 1 = some (3, 30) := by kernel_rfl
theorem fd32_0 : fdOf Tryd.prog 32 0 = some (0, 30) := by kernel_rfl
theorem fd32_1 : fdOf Tryd.prog 32 1 = some (3, 30) := by kernel_rfl
theorem fd101_0 : fdOf Tryd.prog 101 0 = some (0, 100) := by kernel_rfl
theorem fd102_0 : fdOf Tryd.prog 102 0 = some (0, 100) := by kernel_rfl
theorem annuluslaw8_GaussWholes.ok : FnOK Tryd.prog 4 51 (bodyOf Tryd.f4) [.tmp 6] := ⟨mix, Tryd.f4, Tryd.func4, rfl, rfl, rfl⟩
theorem annuluslaw8_GaussWholes.dr : drP (bodyOf Tryd.f4) := drP_of (by kernel_rfl)
theorem annuluslaw8_GaussWholes.call : callable Tryd.prog 4 = true := by kernel_rfl
theorem annuluslaw8_known.ok : FnOK Tryd.prog 7 54 (bodyOf Tryd.f7) [.tmp 0] := ⟨mix, Tryd.f7, Tryd.func7, rfl, rfl, rfl⟩
theorem annuluslaw8_known.dr : drP (bodyOf Tryd.f7) := drP_of (by kernel_rfl)
theorem annuluslaw8_known.call : callable Tryd.prog 7 = true := by kernel_rfl
theorem gauss_Exact.ok : FnOK Tryd.prog 9 30 (bodyOf Tryd.f9) [.cell 2 32, .tmp 3] := ⟨mix, Tryd.f9, Tryd.func9, rfl, rfl, rfl⟩
theorem gauss_Exact.dr : drP (bodyOf Tryd.f9) := drP_of (by kernel_rfl)
theorem gauss_Exact.call : callable Tryd.prog 9 = true := by kernel_rfl
theorem math_IsInf.ok : FnOK Tryd.prog 10 15 (bodyOf Tryd.f10) [.tmp 4] := ⟨mix, Tryd.f10, Tryd.func10, rfl, rfl, rfl⟩
theorem math_IsInf.dr : drP (bodyOf Tryd.f10) := drP_of (by kernel_rfl)
theorem math_IsInf.call : callable Tryd.prog 10 = true := by kernel_rfl
theorem math_IsNaN.ok : FnOK Tryd.prog 11 6 (bodyOf Tryd.f11) [.tmp 2] := ⟨mix, Tryd.f11, Tryd.func11, rfl, rfl, rfl⟩
theorem math_IsNaN.dr : drP (bodyOf Tryd.f11) := drP_of (by kernel_rfl)
theorem math_IsNaN.call : callable Tryd.prog 11 = true := by kernel_rfl
theorem annulusref8_Equal.ok : FnOK Tryd.prog 12 17 (bodyOf Tryd.f12) [.tmp 4] := ⟨mix, Tryd.f12, Tryd.func12, rfl, rfl, rfl⟩
theorem annulusref8_Equal.dr : drP (bodyOf Tryd.f12) := drP_of (by kernel_rfl)
theorem annulusref8_Equal.call : callable Tryd.prog 12 = true := by kernel_rfl
theorem annulusref4_Equal.ok : FnOK Tryd.prog 13 17 (bodyOf Tryd.f13) [.tmp 4] := ⟨mix, Tryd.f13, Tryd.func13, rfl, rfl, rfl⟩
theorem annulusref4_Equal.dr : drP (bodyOf Tryd.f13) := drP_of (by kernel_rfl)
theorem annulusref4_Equal.call : callable Tryd.prog 13 = true := by kernel_rfl
theorem gauss_Float.ok : FnOK Tryd.prog 15 10 (bodyOf Tryd.f15) [.tmp 2] := ⟨mix, Tryd.f15, Tryd.func15, rfl, rfl, rfl⟩
theorem gauss_Float.dr : drP (bodyOf Tryd.f15) := drP_of (by kernel_rfl)
theorem gauss_Float.call : callable Tryd.prog 15 = true := by kernel_rfl
theorem gauss_Of.ok : FnOK Tryd.prog 17 10 (bodyOf Tryd.f17) [.cell 4 32] := ⟨mix, Tryd.f17, Tryd.func17, rfl, rfl, rfl⟩
theorem gauss_Of.dr : drP (bodyOf Tryd.f17) := drP_of (by kernel_rfl)
theorem gauss_Of.call : callable Tryd.prog 17 = true := by kernel_rfl
theorem gauss_Scale.ok : FnOK Tryd.prog 18 14 (bodyOf Tryd.f18) [.cell 4 32] := ⟨mix, Tryd.f18, Tryd.func18, rfl, rfl, rfl⟩
theorem gauss_Scale.dr : drP (bodyOf Tryd.f18) := drP_of (by kernel_rfl)
theorem gauss_Scale.call : callable Tryd.prog 18 = true := by kernel_rfl
theorem gauss_Same.ok : FnOK Tryd.prog 19 17 (bodyOf Tryd.f19) [.tmp 4] := ⟨mix, Tryd.f19, Tryd.func19, rfl, rfl, rfl⟩
theorem gauss_Same.dr : drP (bodyOf Tryd.f19) := drP_of (by kernel_rfl)
theorem gauss_Same.call : callable Tryd.prog 19 = true := by kernel_rfl
theorem gauss_Mul.ok : FnOK Tryd.prog 21 28 (bodyOf Tryd.f21) [.cell 4 32] := ⟨mix, Tryd.f21, Tryd.func21, rfl, rfl, rfl⟩
theorem gauss_Mul.dr : drP (bodyOf Tryd.f21) := drP_of (by kernel_rfl)
theorem gauss_Mul.call : callable Tryd.prog 21 = true := by kernel_rfl
theorem gauss_Add.ok : FnOK Tryd.prog 22 16 (bodyOf Tryd.f22) [.cell 4 32] := ⟨mix, Tryd.f22, Tryd.func22, rfl, rfl, rfl⟩
theorem gauss_Add.dr : drP (bodyOf Tryd.f22) := drP_of (by kernel_rfl)
theorem gauss_Add.call : callable Tryd.prog 22 = true := by kernel_rfl
theorem gauss_Norm.ok : FnOK Tryd.prog 24 14 (bodyOf Tryd.f24) [.cell 2 30] := ⟨mix, Tryd.f24, Tryd.func24, rfl, rfl, rfl⟩
theorem gauss_Norm.dr : drP (bodyOf Tryd.f24) := drP_of (by kernel_rfl)
theorem gauss_Norm.call : callable Tryd.prog 24 = true := by kernel_rfl
theorem gauss_Zero.ok : FnOK Tryd.prog 27 13 (bodyOf Tryd.f27) [.tmp 2] := ⟨mix, Tryd.f27, Tryd.func27, rfl, rfl, rfl⟩
theorem gauss_Zero.dr : drP (bodyOf Tryd.f27) := drP_of (by kernel_rfl)
theorem gauss_Zero.call : callable Tryd.prog 27 = true := by kernel_rfl
theorem annulusref4_Sign.ok : FnOK Tryd.prog 28 6 (bodyOf Tryd.f28) [.tmp 2] := ⟨mix, Tryd.f28, Tryd.func28, rfl, rfl, rfl⟩
theorem annulusref4_Sign.dr : drP (bodyOf Tryd.f28) := drP_of (by kernel_rfl)
theorem annulusref4_Sign.call : callable Tryd.prog 28 = true := by kernel_rfl
theorem gauss_Pow.ok : FnOK Tryd.prog 31 17 (bodyOf Tryd.f31) [.cell 4 32] := ⟨mix, Tryd.f31, Tryd.func31, rfl, rfl, rfl⟩
theorem gauss_Pow.dr : drP (bodyOf Tryd.f31) := drP_of (by kernel_rfl)
theorem gauss_Pow.call : callable Tryd.prog 31 = true := by kernel_rfl
theorem annulusref4_Of.ok : FnOK Tryd.prog 33 6 (bodyOf Tryd.f33) [.cell 2 30] := ⟨mix, Tryd.f33, Tryd.func33, rfl, rfl, rfl⟩
theorem annulusref4_Of.dr : drP (bodyOf Tryd.f33) := drP_of (by kernel_rfl)
theorem annulusref4_Of.call : callable Tryd.prog 33 = true := by kernel_rfl
theorem math_Inf.ok : FnOK Tryd.prog 34 8 (bodyOf Tryd.f34) [.tmp 2] := ⟨mix, Tryd.f34, Tryd.func34, rfl, rfl, rfl⟩
theorem math_Inf.dr : drP (bodyOf Tryd.f34) := drP_of (by kernel_rfl)
theorem math_Inf.call : callable Tryd.prog 34 = true := by kernel_rfl
theorem annulusref8_Of.ok : FnOK Tryd.prog 35 10 (bodyOf Tryd.f35) [.cell 4 32] := ⟨mix, Tryd.f35, Tryd.func35, rfl, rfl, rfl⟩
theorem annulusref8_Of.dr : drP (bodyOf Tryd.f35) := drP_of (by kernel_rfl)
theorem annulusref8_Of.call : callable Tryd.prog 35 = true := by kernel_rfl
theorem annulusref4_Scale.ok : FnOK Tryd.prog 36 18 (bodyOf Tryd.f36) [.cell 4 30] := ⟨mix, Tryd.f36, Tryd.func36, rfl, rfl, rfl⟩
theorem annulusref4_Scale.dr : drP (bodyOf Tryd.f36) := drP_of (by kernel_rfl)
theorem annulusref4_Scale.call : callable Tryd.prog 36 = true := by kernel_rfl
theorem gauss_Neg.ok : FnOK Tryd.prog 37 10 (bodyOf Tryd.f37) [.cell 2 32] := ⟨mix, Tryd.f37, Tryd.func37, rfl, rfl, rfl⟩
theorem gauss_Neg.dr : drP (bodyOf Tryd.f37) := drP_of (by kernel_rfl)
theorem gauss_Neg.call : callable Tryd.prog 37 = true := by kernel_rfl
theorem gauss_exact.ok : FnOK Tryd.prog 38 25 (bodyOf Tryd.f38) [.cell 2 30, .tmp 3] := ⟨mix, Tryd.f38, Tryd.func38, rfl, rfl, rfl⟩
theorem gauss_exact.dr : drP (bodyOf Tryd.f38) := drP_of (by kernel_rfl)
theorem gauss_exact.call : callable Tryd.prog 38 = true := by kernel_rfl
theorem math_Abs.ok : FnOK Tryd.prog 39 7 (bodyOf Tryd.f39) [.tmp 2] := ⟨mix, Tryd.f39, Tryd.func39, rfl, rfl, rfl⟩
theorem math_Abs.dr : drP (bodyOf Tryd.f39) := drP_of (by kernel_rfl)
theorem math_Abs.call : callable Tryd.prog 39 = true := by kernel_rfl
theorem annulusref1_SameInt.ok : FnOK Tryd.prog 40 17 (bodyOf Tryd.f40) [.tmp 4] := ⟨mix, Tryd.f40, Tryd.func40, rfl, rfl, rfl⟩
theorem annulusref1_SameInt.dr : drP (bodyOf Tryd.f40) := drP_of (by kernel_rfl)
theorem annulusref1_SameInt.call : callable Tryd.prog 40 = true := by kernel_rfl
theorem annulusref4_Make.ok : FnOK Tryd.prog 41 30 (bodyOf Tryd.f41) [.cell 4 30] := ⟨mix, Tryd.f41, Tryd.func41, rfl, rfl, rfl⟩
theorem annulusref4_Make.dr : drP (bodyOf Tryd.f41) := drP_of (by kernel_rfl)
theorem annulusref4_Make.call : callable Tryd.prog 41 = true := by kernel_rfl
theorem gauss_float.ok : FnOK Tryd.prog 42 34 (bodyOf Tryd.f42) [.tmp 2] := ⟨mix, Tryd.f42, Tryd.func42, rfl, rfl, rfl⟩
theorem gauss_float.dr : drP (bodyOf Tryd.f42) := drP_of (by kernel_rfl)
theorem gauss_float.call : callable Tryd.prog 42 = true := by kernel_rfl
theorem dyad_Of.ok : FnOK Tryd.prog 44 6 (bodyOf Tryd.f44) [.cell 2 30] := ⟨mix, Tryd.f44, Tryd.func44, rfl, rfl, rfl⟩
theorem dyad_Of.dr : drP (bodyOf Tryd.f44) := drP_of (by kernel_rfl)
theorem dyad_Of.call : callable Tryd.prog 44 = true := by kernel_rfl
theorem dyad_Scale.ok : FnOK Tryd.prog 45 14 (bodyOf Tryd.f45) [.cell 4 30] := ⟨mix, Tryd.f45, Tryd.func45, rfl, rfl, rfl⟩
theorem dyad_Scale.dr : drP (bodyOf Tryd.f45) := drP_of (by kernel_rfl)
theorem dyad_Scale.call : callable Tryd.prog 45 = true := by kernel_rfl
theorem dyad_Same.ok : FnOK Tryd.prog 46 9 (bodyOf Tryd.f46) [.tmp 4] := ⟨mix, Tryd.f46, Tryd.func46, rfl, rfl, rfl⟩
theorem dyad_Same.dr : drP (bodyOf Tryd.f46) := drP_of (by kernel_rfl)
theorem dyad_Same.call : callable Tryd.prog 46 = true := by kernel_rfl
theorem dyad_Sub.ok : FnOK Tryd.prog 48 13 (bodyOf Tryd.f48) [.cell 4 30] := ⟨mix, Tryd.f48, Tryd.func48, rfl, rfl, rfl⟩
theorem dyad_Sub.dr : drP (bodyOf Tryd.f48) := drP_of (by kernel_rfl)
theorem dyad_Sub.call : callable Tryd.prog 48 = true := by kernel_rfl
theorem dyad_Mul.ok : FnOK Tryd.prog 49 18 (bodyOf Tryd.f49) [.cell 4 30] := ⟨mix, Tryd.f49, Tryd.func49, rfl, rfl, rfl⟩
theorem dyad_Mul.dr : drP (bodyOf Tryd.f49) := drP_of (by kernel_rfl)
theorem dyad_Mul.call : callable Tryd.prog 49 = true := by kernel_rfl
theorem dyad_Add.ok : FnOK Tryd.prog 50 40 (bodyOf Tryd.f50) [.cell 4 30] := ⟨mix, Tryd.f50, Tryd.func50, rfl, rfl, rfl⟩
theorem dyad_Add.dr : drP (bodyOf Tryd.f50) := drP_of (by kernel_rfl)
theorem dyad_Add.call : callable Tryd.prog 50 = true := by kernel_rfl
theorem dyad_Neg.ok : FnOK Tryd.prog 51 10 (bodyOf Tryd.f51) [.cell 2 30] := ⟨mix, Tryd.f51, Tryd.func51, rfl, rfl, rfl⟩
theorem dyad_Neg.dr : drP (bodyOf Tryd.f51) := drP_of (by kernel_rfl)
theorem dyad_Neg.call : callable Tryd.prog 51 = true := by kernel_rfl
theorem dyad_Sign.ok : FnOK Tryd.prog 54 6 (bodyOf Tryd.f54) [.tmp 2] := ⟨mix, Tryd.f54, Tryd.func54, rfl, rfl, rfl⟩
theorem dyad_Sign.dr : drP (bodyOf Tryd.f54) := drP_of (by kernel_rfl)
theorem dyad_Sign.call : callable Tryd.prog 54 = true := by kernel_rfl
theorem annulusref1_Sign.ok : FnOK Tryd.prog 55 14 (bodyOf Tryd.f55) [.tmp 2] := ⟨mix, Tryd.f55, Tryd.func55, rfl, rfl, rfl⟩
theorem annulusref1_Sign.dr : drP (bodyOf Tryd.f55) := drP_of (by kernel_rfl)
theorem annulusref1_Sign.call : callable Tryd.prog 55 = true := by kernel_rfl
theorem annulusref1_Of.ok : FnOK Tryd.prog 58 20 (bodyOf Tryd.f58) [.cell 2 28] := ⟨mix, Tryd.f58, Tryd.func58, rfl, rfl, rfl⟩
theorem annulusref1_Of.dr : drP (bodyOf Tryd.f58) := drP_of (by kernel_rfl)
theorem annulusref1_Of.call : callable Tryd.prog 58 = true := by kernel_rfl
theorem math_Frexp.ok : FnOK Tryd.prog 59 12 (bodyOf Tryd.f59) [.tmp 2, .tmp 3] := ⟨mix, Tryd.f59, Tryd.func59, rfl, rfl, rfl⟩
theorem math_Frexp.dr : drP (bodyOf Tryd.f59) := drP_of (by kernel_rfl)
theorem math_Frexp.call : callable Tryd.prog 59 = true := by kernel_rfl
theorem dyad_Make.ok : FnOK Tryd.prog 60 9 (bodyOf Tryd.f60) [.cell 4 30] := ⟨mix, Tryd.f60, Tryd.func60, rfl, rfl, rfl⟩
theorem dyad_Make.dr : drP (bodyOf Tryd.f60) := drP_of (by kernel_rfl)
theorem dyad_Make.call : callable Tryd.prog 60 = true := by kernel_rfl
theorem whole_Of.ok : FnOK Tryd.prog 61 19 (bodyOf Tryd.f61) [.cell 2 28] := ⟨mix, Tryd.f61, Tryd.func61, rfl, rfl, rfl⟩
theorem whole_Of.dr : drP (bodyOf Tryd.f61) := drP_of (by kernel_rfl)
theorem whole_Of.call : callable Tryd.prog 61 = true := by kernel_rfl
theorem math_Ldexp.ok : FnOK Tryd.prog 62 11 (bodyOf Tryd.f62) [.tmp 4] := ⟨mix, Tryd.f62, Tryd.func62, rfl, rfl, rfl⟩
theorem math_Ldexp.dr : drP (bodyOf Tryd.f62) := drP_of (by kernel_rfl)
theorem math_Ldexp.call : callable Tryd.prog 62 = true := by kernel_rfl
theorem annulusref1_Same.ok : FnOK Tryd.prog 64 26 (bodyOf Tryd.f64) [.tmp 4] := ⟨mix, Tryd.f64, Tryd.func64, rfl, rfl, rfl⟩
theorem annulusref1_Same.dr : drP (bodyOf Tryd.f64) := drP_of (by kernel_rfl)
theorem annulusref1_Same.call : callable Tryd.prog 64 = true := by kernel_rfl
theorem annulusref1_Norm.ok : FnOK Tryd.prog 65 16 (bodyOf Tryd.f65) [.cell 2 28] := ⟨mix, Tryd.f65, Tryd.func65, rfl, rfl, rfl⟩
theorem annulusref1_Norm.dr : drP (bodyOf Tryd.f65) := drP_of (by kernel_rfl)
theorem annulusref1_Norm.call : callable Tryd.prog 65 = true := by kernel_rfl
theorem annulusref1_Low.ok : FnOK Tryd.prog 66 17 (bodyOf Tryd.f66) [.tmp 2] := ⟨mix, Tryd.f66, Tryd.func66, rfl, rfl, rfl⟩
theorem annulusref1_Low.dr : drP (bodyOf Tryd.f66) := drP_of (by kernel_rfl)
theorem annulusref1_Low.call : callable Tryd.prog 66 = true := by kernel_rfl
theorem annulusref1_Shr.ok : FnOK Tryd.prog 67 49 (bodyOf Tryd.f67) [.tmp 4] := ⟨mix, Tryd.f67, Tryd.func67, rfl, rfl, rfl⟩
theorem annulusref1_Shr.dr : drP (bodyOf Tryd.f67) := drP_of (by kernel_rfl)
theorem annulusref1_Shr.call : callable Tryd.prog 67 = true := by kernel_rfl
theorem nat_Bits.ok : FnOK Tryd.prog 68 20 (bodyOf Tryd.f68) [.tmp 2] := ⟨mix, Tryd.f68, Tryd.func68, rfl, rfl, rfl⟩
theorem nat_Bits.dr : drP (bodyOf Tryd.f68) := drP_of (by kernel_rfl)
theorem nat_Bits.call : callable Tryd.prog 68 = true := by kernel_rfl
theorem whole_Small.ok : FnOK Tryd.prog 69 49 (bodyOf Tryd.f69) [.tmp 2, .tmp 3] := ⟨mix, Tryd.f69, Tryd.func69, rfl, rfl, rfl⟩
theorem whole_Small.dr : drP (bodyOf Tryd.f69) := drP_of (by kernel_rfl)
theorem whole_Small.call : callable Tryd.prog 69 = true := by kernel_rfl
theorem whole_Shr.ok : FnOK Tryd.prog 70 30 (bodyOf Tryd.f70) [.cell 4 28] := ⟨mix, Tryd.f70, Tryd.func70, rfl, rfl, rfl⟩
theorem whole_Shr.dr : drP (bodyOf Tryd.f70) := drP_of (by kernel_rfl)
theorem whole_Shr.call : callable Tryd.prog 70 = true := by kernel_rfl
theorem dyad_Raw.ok : FnOK Tryd.prog 72 27 (bodyOf Tryd.f72) [.cell 4 30] := ⟨mix, Tryd.f72, Tryd.func72, rfl, rfl, rfl⟩
theorem dyad_Raw.dr : drP (bodyOf Tryd.f72) := drP_of (by kernel_rfl)
theorem dyad_Raw.call : callable Tryd.prog 72 = true := by kernel_rfl
theorem dyad_kept.ok : FnOK Tryd.prog 73 6 (bodyOf Tryd.f73) [.tmp 2] := ⟨mix, Tryd.f73, Tryd.func73, rfl, rfl, rfl⟩
theorem dyad_kept.dr : drP (bodyOf Tryd.f73) := drP_of (by kernel_rfl)
theorem dyad_kept.call : callable Tryd.prog 73 = true := by kernel_rfl
theorem dyad_held.ok : FnOK Tryd.prog 74 6 (bodyOf Tryd.f74) [.tmp 2] := ⟨mix, Tryd.f74, Tryd.func74, rfl, rfl, rfl⟩
theorem dyad_held.dr : drP (bodyOf Tryd.f74) := drP_of (by kernel_rfl)
theorem dyad_held.call : callable Tryd.prog 74 = true := by kernel_rfl
theorem dyad_Cmp.ok : FnOK Tryd.prog 75 9 (bodyOf Tryd.f75) [.tmp 4] := ⟨mix, Tryd.f75, Tryd.func75, rfl, rfl, rfl⟩
theorem dyad_Cmp.dr : drP (bodyOf Tryd.f75) := drP_of (by kernel_rfl)
theorem dyad_Cmp.call : callable Tryd.prog 75 = true := by kernel_rfl
theorem whole_Neg.ok : FnOK Tryd.prog 76 9 (bodyOf Tryd.f76) [.cell 2 28] := ⟨mix, Tryd.f76, Tryd.func76, rfl, rfl, rfl⟩
theorem whole_Neg.dr : drP (bodyOf Tryd.f76) := drP_of (by kernel_rfl)
theorem whole_Neg.call : callable Tryd.prog 76 = true := by kernel_rfl
theorem whole_Mul.ok : FnOK Tryd.prog 77 16 (bodyOf Tryd.f77) [.cell 4 28] := ⟨mix, Tryd.f77, Tryd.func77, rfl, rfl, rfl⟩
theorem whole_Mul.dr : drP (bodyOf Tryd.f77) := drP_of (by kernel_rfl)
theorem whole_Mul.call : callable Tryd.prog 77 = true := by kernel_rfl
theorem dyad_of.ok : FnOK Tryd.prog 78 9 (bodyOf Tryd.f78) [.cell 2 30] := ⟨mix, Tryd.f78, Tryd.func78, rfl, rfl, rfl⟩
theorem dyad_of.dr : drP (bodyOf Tryd.f78) := drP_of (by kernel_rfl)
theorem dyad_of.call : callable Tryd.prog 78 = true := by kernel_rfl
theorem whole_Add.ok : FnOK Tryd.prog 79 47 (bodyOf Tryd.f79) [.cell 4 28] := ⟨mix, Tryd.f79, Tryd.func79, rfl, rfl, rfl⟩
theorem whole_Add.dr : drP (bodyOf Tryd.f79) := drP_of (by kernel_rfl)
theorem whole_Add.call : callable Tryd.prog 79 = true := by kernel_rfl
theorem whole_Up.ok : FnOK Tryd.prog 80 12 (bodyOf Tryd.f80) [.cell 4 28] := ⟨mix, Tryd.f80, Tryd.func80, rfl, rfl, rfl⟩
theorem whole_Up.dr : drP (bodyOf Tryd.f80) := drP_of (by kernel_rfl)
theorem whole_Up.call : callable Tryd.prog 80 = true := by kernel_rfl
theorem whole_Sign.ok : FnOK Tryd.prog 82 19 (bodyOf Tryd.f82) [.tmp 2] := ⟨mix, Tryd.f82, Tryd.func82, rfl, rfl, rfl⟩
theorem whole_Sign.dr : drP (bodyOf Tryd.f82) := drP_of (by kernel_rfl)
theorem whole_Sign.call : callable Tryd.prog 82 = true := by kernel_rfl
theorem math_frexp.ok : FnOK Tryd.prog 84 38 (bodyOf Tryd.f84) [.tmp 2, .tmp 3] := ⟨mix, Tryd.f84, Tryd.func84, rfl, rfl, rfl⟩
theorem math_frexp.dr : drP (bodyOf Tryd.f84) := drP_of (by kernel_rfl)
theorem math_frexp.call : callable Tryd.prog 84 = true := by kernel_rfl
theorem whole_with.ok : FnOK Tryd.prog 85 15 (bodyOf Tryd.f85) [.cell 4 28] := ⟨mix, Tryd.f85, Tryd.func85, rfl, rfl, rfl⟩
theorem whole_with.dr : drP (bodyOf Tryd.f85) := drP_of (by kernel_rfl)
theorem whole_with.call : callable Tryd.prog 85 = true := by kernel_rfl
theorem math_ldexp.ok : FnOK Tryd.prog 87 63 (bodyOf Tryd.f87) [.tmp 4] := ⟨mix, Tryd.f87, Tryd.func87, rfl, rfl, rfl⟩
theorem math_ldexp.dr : drP (bodyOf Tryd.f87) := drP_of (by kernel_rfl)
theorem math_ldexp.call : callable Tryd.prog 87 = true := by kernel_rfl
theorem annulusref1_Trim.ok : FnOK Tryd.prog 88 21 (bodyOf Tryd.f88) [.tmp 2] := ⟨mix, Tryd.f88, Tryd.func88, rfl, rfl, rfl⟩
theorem annulusref1_Trim.dr : drP (bodyOf Tryd.f88) := drP_of (by kernel_rfl)
theorem annulusref1_Trim.call : callable Tryd.prog 88 = true := by kernel_rfl
theorem annulusref1_Bit.ok : FnOK Tryd.prog 89 27 (bodyOf Tryd.f89) [.tmp 4] := ⟨mix, Tryd.f89, Tryd.func89, rfl, rfl, rfl⟩
theorem annulusref1_Bit.dr : drP (bodyOf Tryd.f89) := drP_of (by kernel_rfl)
theorem annulusref1_Bit.call : callable Tryd.prog 89 = true := by kernel_rfl
theorem annulusref1_at.ok : FnOK Tryd.prog 90 14 (bodyOf Tryd.f90) [.tmp 4] := ⟨mix, Tryd.f90, Tryd.func90, rfl, rfl, rfl⟩
theorem annulusref1_at.dr : drP (bodyOf Tryd.f90) := drP_of (by kernel_rfl)
theorem annulusref1_at.call : callable Tryd.prog 90 = true := by kernel_rfl
theorem nat_cut.ok : FnOK Tryd.prog 91 21 (bodyOf Tryd.f91) [.tmp 2] := ⟨mix, Tryd.f91, Tryd.func91, rfl, rfl, rfl⟩
theorem nat_cut.dr : drP (bodyOf Tryd.f91) := drP_of (by kernel_rfl)
theorem nat_cut.call : callable Tryd.prog 91 = true := by kernel_rfl
theorem math_bits_Len32.ok : FnOK Tryd.prog 92 19 (bodyOf Tryd.f92) [.tmp 2] := ⟨mix, Tryd.f92, Tryd.func92, rfl, rfl, rfl⟩
theorem math_bits_Len32.dr : drP (bodyOf Tryd.f92) := drP_of (by kernel_rfl)
theorem math_bits_Len32.call : callable Tryd.prog 92 = true := by kernel_rfl
theorem whole_Norm.ok : FnOK Tryd.prog 93 8 (bodyOf Tryd.f93) [.cell 2 28] := ⟨mix, Tryd.f93, Tryd.func93, rfl, rfl, rfl⟩
theorem whole_Norm.dr : drP (bodyOf Tryd.f93) := drP_of (by kernel_rfl)
theorem whole_Norm.call : callable Tryd.prog 93 = true := by kernel_rfl
theorem nat_Shr.ok : FnOK Tryd.prog 94 9 (bodyOf Tryd.f94) [.tmp 4] := ⟨mix, Tryd.f94, Tryd.func94, rfl, rfl, rfl⟩
theorem nat_Shr.dr : drP (bodyOf Tryd.f94) := drP_of (by kernel_rfl)
theorem nat_Shr.call : callable Tryd.prog 94 = true := by kernel_rfl
theorem nat_Cmp.ok : FnOK Tryd.prog 95 47 (bodyOf Tryd.f95) [.tmp 4] := ⟨mix, Tryd.f95, Tryd.func95, rfl, rfl, rfl⟩
theorem nat_Cmp.dr : drP (bodyOf Tryd.f95) := drP_of (by kernel_rfl)
theorem nat_Cmp.call : callable Tryd.prog 95 = true := by kernel_rfl
theorem nat_Shl.ok : FnOK Tryd.prog 96 9 (bodyOf Tryd.f96) [.tmp 4] := ⟨mix, Tryd.f96, Tryd.func96, rfl, rfl, rfl⟩
theorem nat_Shl.dr : drP (bodyOf Tryd.f96) := drP_of (by kernel_rfl)
theorem nat_Shl.call : callable Tryd.prog 96 = true := by kernel_rfl
theorem whole_Sub.ok : FnOK Tryd.prog 97 13 (bodyOf Tryd.f97) [.cell 4 28] := ⟨mix, Tryd.f97, Tryd.func97, rfl, rfl, rfl⟩
theorem whole_Sub.dr : drP (bodyOf Tryd.f97) := drP_of (by kernel_rfl)
theorem whole_Sub.call : callable Tryd.prog 97 = true := by kernel_rfl
theorem nat_Low.ok : FnOK Tryd.prog 98 20 (bodyOf Tryd.f98) [.tmp 2] := ⟨mix, Tryd.f98, Tryd.func98, rfl, rfl, rfl⟩
theorem nat_Low.dr : drP (bodyOf Tryd.f98) := drP_of (by kernel_rfl)
theorem nat_Low.call : callable Tryd.prog 98 = true := by kernel_rfl
theorem nat_Downwards.ok : FnOK Tryd.prog 99 53 (bodyOf Tryd.f99) [.tmp 4] := ⟨mix, Tryd.f99, Tryd.func99, rfl, rfl, rfl⟩
theorem nat_Downwards.dr : drP (bodyOf Tryd.f99) := drP_of (by kernel_rfl)
theorem nat_Downwards.call : callable Tryd.prog 99 = true := by kernel_rfl
theorem nat_Mul.ok : FnOK Tryd.prog 100 71 (bodyOf Tryd.f100) [.tmp 4] := ⟨mix, Tryd.f100, Tryd.func100, rfl, rfl, rfl⟩
theorem nat_Mul.dr : drP (bodyOf Tryd.f100) := drP_of (by kernel_rfl)
theorem nat_Mul.call : callable Tryd.prog 100 = true := by kernel_rfl
theorem nat_Add.ok : FnOK Tryd.prog 101 39 (bodyOf Tryd.f101) [.tmp 4] := ⟨mix, Tryd.f101, Tryd.func101, rfl, rfl, rfl⟩
theorem nat_Add.dr : drP (bodyOf Tryd.f101) := drP_of (by kernel_rfl)
theorem nat_Add.call : callable Tryd.prog 101 = true := by kernel_rfl
theorem nat_Sub.ok : FnOK Tryd.prog 102 42 (bodyOf Tryd.f102) [.tmp 4, .tmp 5] := ⟨mix, Tryd.f102, Tryd.func102, rfl, rfl, rfl⟩
theorem nat_Sub.dr : drP (bodyOf Tryd.f102) := drP_of (by kernel_rfl)
theorem nat_Sub.call : callable Tryd.prog 102 = true := by kernel_rfl
theorem nat_Up.ok : FnOK Tryd.prog 103 55 (bodyOf Tryd.f103) [.tmp 4] := ⟨mix, Tryd.f103, Tryd.func103, rfl, rfl, rfl⟩
theorem nat_Up.dr : drP (bodyOf Tryd.f103) := drP_of (by kernel_rfl)
theorem nat_Up.call : callable Tryd.prog 103 = true := by kernel_rfl
theorem math_normalize.ok : FnOK Tryd.prog 104 10 (bodyOf Tryd.f104) [.tmp 2, .tmp 3] := ⟨mix, Tryd.f104, Tryd.func104, rfl, rfl, rfl⟩
theorem math_normalize.dr : drP (bodyOf Tryd.f104) := drP_of (by kernel_rfl)
theorem math_normalize.call : callable Tryd.prog 104 = true := by kernel_rfl
theorem nat_Trim.ok : FnOK Tryd.prog 105 6 (bodyOf Tryd.f105) [.tmp 2] := ⟨mix, Tryd.f105, Tryd.func105, rfl, rfl, rfl⟩
theorem nat_Trim.dr : drP (bodyOf Tryd.f105) := drP_of (by kernel_rfl)
theorem nat_Trim.call : callable Tryd.prog 105 = true := by kernel_rfl
theorem math_Copysign.ok : FnOK Tryd.prog 106 13 (bodyOf Tryd.f106) [.tmp 4] := ⟨mix, Tryd.f106, Tryd.func106, rfl, rfl, rfl⟩
theorem math_Copysign.dr : drP (bodyOf Tryd.f106) := drP_of (by kernel_rfl)
theorem math_Copysign.call : callable Tryd.prog 106 = true := by kernel_rfl
theorem nat_held.ok : FnOK Tryd.prog 107 6 (bodyOf Tryd.f107) [.tmp 2] := ⟨mix, Tryd.f107, Tryd.func107, rfl, rfl, rfl⟩
theorem nat_held.dr : drP (bodyOf Tryd.f107) := drP_of (by kernel_rfl)
theorem nat_held.call : callable Tryd.prog 107 = true := by kernel_rfl
theorem math_bits_TrailingZeros32.ok : FnOK Tryd.prog 108 14 (bodyOf Tryd.f108) [.tmp 2] := ⟨mix, Tryd.f108, Tryd.func108, rfl, rfl, rfl⟩
theorem math_bits_TrailingZeros32.dr : drP (bodyOf Tryd.f108) := drP_of (by kernel_rfl)
theorem math_bits_TrailingZeros32.call : callable Tryd.prog 108 = true := by kernel_rfl
theorem nat_at.ok : FnOK Tryd.prog 109 18 (bodyOf Tryd.f109) [.tmp 4] := ⟨mix, Tryd.f109, Tryd.func109, rfl, rfl, rfl⟩
theorem nat_at.dr : drP (bodyOf Tryd.f109) := drP_of (by kernel_rfl)
theorem nat_at.call : callable Tryd.prog 109 = true := by kernel_rfl
theorem slices_Clone_uint32_uint32.ok : FnOK Tryd.prog 110 8 (bodyOf Tryd.f110) [.tmp 2] := ⟨mix, Tryd.f110, Tryd.func110, rfl, rfl, rfl⟩
theorem slices_Clone_uint32_uint32.dr : drP (bodyOf Tryd.f110) := drP_of (by kernel_rfl)
theorem slices_Clone_uint32_uint32.call : callable Tryd.prog 110 = true := by kernel_rfl
theorem ext_bits (b : Nat) : extF Tryd.prog 63 [.v (.float .f64 b)] = some (.int .u64 b) := by unfold extF; rw [Tryd.func63]; rfl
theorem ext_from (n : Int) : extF Tryd.prog 8 [.v (.int .u64 n)] = some (.float .f64 n.toNat) := by unfold extF; rw [Tryd.func8]; rfl
noncomputable def CT : Ctx := ⟨Tryd.prog, fun g => if g = 1 then some tab32 else none⟩
theorem CT_P : CT.P = Tryd.prog := rfl
theorem x_glob0 {l : List (Nat × AV)} : evalA CT.G l (.global 1) = .dp (tab32.map .v) 0 := rfl
attribute [go_sem] bodyOf aW1 x_skip x_label x_tree x_runN x_runT x_runC x_linsE x_getA0 x_getAs x_seq x_block x_exit x_goto x_ret x_then1 x_then2 x_then3 x_then4 x_blk1 x_blk2 x_blk3 x_blk4 x_region x_cond x_cond_dec x_cond_true x_cond_false x_CX x_RK x_GX x_GY x_nil x_plain x_guard x_guard_tt x_guard_ff x_guard_tf x_guard_ft x_guard_dt x_guard_un x_guard_df x_dst x_dst0 x_put x_put0 x_tmp x_const x_fnc x_look x_out1 x_out x_move x_assign x_pick x_pick_tt x_pick_ff x_pick_d x_alloc allocO x_box boxO cellsA x_build buildO fillA x_buildSlice buildSliceO x_load loadO x_loadF1 x_loadF0 x_store storeO x_nilCheck nilO x_binOp x_binOpI x_binOpB x_binOpF x_binOpX x_feql x_fneq x_flss x_fleq x_fgtr x_fgeq x_fmul x_fadd x_fsub x_fquo fltO x_ceql x_cplx cplxO x_real realO x_imag imagO x_eqNil eqNilK x_add x_sub x_mul x_quo x_rem x_and x_or x_xor x_andNot x_shl x_shr x_eql x_neq x_lss x_leq x_gtr x_geq x_eqb x_neb x_unOp x_not x_notb x_neg x_convert convO x_make makeO x_slice sliceO x_bound0 x_bound1 boundV x_fieldAddr faddrO x_indexAddr iaddrO x_extract extractO x_field fieldO x_len lenO x_max x_min x_maxO x_minO x_append x_call gslot initSlots Ret retF resF CT_P List.getElem?_toArray List.getElem?_cons_zero List.getElem?_cons_succ Option.bind_some List.map_cons List.map_nil List.length_cons List.length_nil true_and and_true forall_const hd List.getD_cons_zero List.getD_cons_succ List.set_cons_zero List.set_cons_succ List.nil_append List.cons_append U32 decide_true decide_false gt_iff_lt ge_iff_le Nat.zero_add Nat.add_zero Nat.mul_one Nat.sub_zero List.drop_zero Int.toNat_natCast Int.toNat_zero Nat.zero_mul appF newsF zeros_u32s dead Int.le_refl Nat.le_refl List.replicate_zero snap_sl snap_own snap_int snap_bool snap_nil snap_agg snap_tup snap1_sl snap1_own snap1_int snap1_bool snap1_nil ownOK own1 List.mem_cons List.not_mem_nil or_false forall_eq_or_imp forall_eq snap0_u32s List.length_map length_u32s not_true_eq_false not_false_eq_true false_implies implies_true ne_eq Int.natCast_zero fzH fzArgs fzCells fz leaf_u32s take_u32s drop_u32s append_u32s List.take_zero List.take_length isD_u32 IntKind.bits x_m32 Bool.not_false Bool.not_true x_draw isD_v isD_nil isD_tup x_m63 x_m1 x_m1' x_rep1 x_rep2 x_fill1 x_fill2 x_fill2' List.length_replicate Nat.lt_irrefl or_self false_or
attribute [go_sem] tk2 tk3 tk4 tk5 tk6 tk7 tk8 tk12 tk21 tk22 tk24 tk26 tk27 tk28 tk29 tk30 tk31 tk32 tk44 tk65 tk67 tk94 tk96 tk100 tk101 tk102 tk104 tk105 tk108 tk109 fd7_0 fd7_1 fd7_2 fd7_3 fd8_0 fd8_1 fd8_2 fd8_3 fd27_0 fd27_1 fd28_0 fd28_1 fd29_0 fd29_1 fd30_0 fd30_1 fd31_0 fd31_1 fd32_0 fd32_1 fd101_0 fd102_0
end Go.Ab

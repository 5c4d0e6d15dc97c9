/- The facts of this seat's functions and types that the walks use: by program, out of the translation. -/
import Derived.Test.YtikhbokeaikcpaaGreatDoorA3
import Derived.Test.YtikhbokeaikcpaaGreatDoorProg
set_option linter.unusedVariables false
namespace Go.Ab
open Go.Proofs
theorem mix : Tryz.prog.follows .mixedOrders = true := by kernel_rfl
theorem tk2 : tk Tryz.prog 2 = some ⟨false, 1, 8, [.int .i64 0], .int .i64⟩ := by kernel_rfl
theorem tk3 : tk Tryz.prog 3 = some ⟨false, 1, 8, [.int .i64 0], .int .i64⟩ := by kernel_rfl
theorem tk4 : tk Tryz.prog 4 = some ⟨false, 1, 1, [.bool false], .bool⟩ := by kernel_rfl
theorem tk5 : tk Tryz.prog 5 = some ⟨false, 1, 1, [.int .u8 0], .int .u8⟩ := by kernel_rfl
theorem tk6 : tk Tryz.prog 6 = some ⟨false, 1, 1, [.int .u8 0], .int .u8⟩ := by kernel_rfl
theorem tk7 : tk Tryz.prog 7 = some ⟨true, 4, 24, [.int .i64 0, .int .i64 0, .bool false, .int .u8 0], .st [(0, 1), (1, 1), (2, 1), (3, 1)]⟩ := by kernel_rfl
theorem tk8 : tk Tryz.prog 8 = some ⟨true, 4, 24, [.int .i64 0, .int .i64 0, .bool false, .int .u8 0], .st [(0, 1), (1, 1), (2, 1), (3, 1)]⟩ := by kernel_rfl
theorem tk12 : tk Tryz.prog 12 = some ⟨false, 1, 8, [.int .u64 0], .int .u64⟩ := by kernel_rfl
theorem tk21 : tk Tryz.prog 21 = some ⟨false, 1, 4, [.int .i32 0], .int .i32⟩ := by kernel_rfl
theorem tk22 : tk Tryz.prog 22 = some ⟨false, 1, 24, [.slice none 0 0], .sl 100⟩ := by kernel_rfl
theorem tk23 : tk Tryz.prog 23 = some ⟨true, 2, 32, [.bool false, .slice none 0 0], .st [(0, 1), (1, 1)]⟩ := by kernel_rfl
theorem tk24 : tk Tryz.prog 24 = some ⟨true, 2, 32, [.bool false, .slice none 0 0], .st [(0, 1), (1, 1)]⟩ := by kernel_rfl
theorem tk25 : tk Tryz.prog 25 = some ⟨true, 3, 40, [.bool false, .slice none 0 0, .int .i64 0], .st [(0, 2), (2, 1)]⟩ := by kernel_rfl
theorem tk26 : tk Tryz.prog 26 = some ⟨true, 3, 40, [.bool false, .slice none 0 0, .int .i64 0], .st [(0, 2), (2, 1)]⟩ := by kernel_rfl
theorem tk27 : tk Tryz.prog 27 = some ⟨true, 6, 80, [.bool false, .slice none 0 0, .int .i64 0, .bool false, .slice none 0 0, .int .i64 0], .st [(0, 3), (3, 3)]⟩ := by kernel_rfl
theorem tk28 : tk Tryz.prog 28 = some ⟨true, 6, 80, [.bool false, .slice none 0 0, .int .i64 0, .bool false, .slice none 0 0, .int .i64 0], .st [(0, 3), (3, 3)]⟩ := by kernel_rfl
theorem tk44 : tk Tryz.prog 44 = some ⟨false, 1, 24, [.slice none 0 0], .sl 47⟩ := by kernel_rfl
theorem tk45 : tk Tryz.prog 45 = some ⟨false, 1, 24, [.slice none 0 0], .sl 28⟩ := by kernel_rfl
theorem tk46 : tk Tryz.prog 46 = some ⟨true, 9, 120, [.bool false, .slice none 0 0, .int .i64 0, .bool false, .slice none 0 0, .int .i64 0, .bool false, .slice none 0 0, .int .i64 0], .st [(0, 6), (6, 3)]⟩ := by kernel_rfl
theorem tk47 : tk Tryz.prog 47 = some ⟨true, 9, 120, [.bool false, .slice none 0 0, .int .i64 0, .bool false, .slice none 0 0, .int .i64 0, .bool false, .slice none 0 0, .int .i64 0], .st [(0, 6), (6, 3)]⟩ := by kernel_rfl
theorem tk72 : tk Tryz.prog 72 = some ⟨false, 1, 8, [.float .f64 0], .flt .f64⟩ := by kernel_rfl
theorem tk90 : tk Tryz.prog 90 = some ⟨false, 1, 8, [.int .u64 0], .int .u64⟩ := by kernel_rfl
theorem tk100 : tk Tryz.prog 100 = some ⟨false, 1, 4, [.int .u32 0], .int .u32⟩ := by kernel_rfl
theorem tk102 : tk Tryz.prog 102 = some ⟨false, 1, 8, [.int .u64 0], .int .u64⟩ := by kernel_rfl
theorem tk118 : tk Tryz.prog 118 = some ⟨true, 4, 32, [.int .i64 0, .int .i64 0, .int .i64 0, .int .i64 0], .arr 4 3⟩ := by kernel_rfl
theorem tk119 : tk Tryz.prog 119 = some ⟨false, 1, 8, [.int .i64 0], .int .i64⟩ := by kernel_rfl
theorem tk135 : tk Tryz.prog 135 = some ⟨true, 32, 32, [.int .u8 0, .int .u8 0, .int .u8 0, .int .u8 0, .int .u8 0, .int .u8 0, .int .u8 0, .int .u8 0, .int .u8 0, .int .u8 0, .int .u8 0, .int .u8 0, .int .u8 0, .int .u8 0, .int .u8 0, .int .u8 0, .int .u8 0, .int .u8 0, .int .u8 0, .int .u8 0, .int .u8 0, .int .u8 0, .int .u8 0, .int .u8 0, .int .u8 0, .int .u8 0, .int .u8 0, .int .u8 0, .int .u8 0, .int .u8 0, .int .u8 0, .int .u8 0], .arr 32 5⟩ := by kernel_rfl
theorem tk146 : tk Tryz.prog 146 = some ⟨true, 0, 0, [], .arr 0 16⟩ := by kernel_rfl
theorem tk147 : tk Tryz.prog 147 = some ⟨true, 0, 0, [], .st [(0, 0)]⟩ := by kernel_rfl
theorem tk148 : tk Tryz.prog 148 = some ⟨true, 0, 0, [], .st [(0, 0)]⟩ := by kernel_rfl
theorem tk150 : tk Tryz.prog 150 = some ⟨false, 1, 1, [.int .u8 0], .int .u8⟩ := by kernel_rfl
theorem tk151 : tk Tryz.prog 151 = some ⟨false, 1, 1, [.int .u8 0], .int .u8⟩ := by kernel_rfl
theorem tk154 : tk Tryz.prog 154 = some ⟨false, 1, 4, [.int .i32 0], .int .i32⟩ := by kernel_rfl
theorem tk155 : tk Tryz.prog 155 = some ⟨false, 1, 4, [.int .i32 0], .int .i32⟩ := by kernel_rfl
theorem fd7_0 : fdOf Tryz.prog 7 0 = some (0, 2) := by kernel_rfl
theorem fd7_1 : fdOf Tryz.prog 7 1 = some (1, 3) := by kernel_rfl
theorem fd7_2 : fdOf Tryz.prog 7 2 = some (2, 4) := by kernel_rfl
theorem fd7_3 : fdOf Tryz.prog 7 3 = some (3, 6) := by kernel_rfl
theorem fd8_0 : fdOf Tryz.prog 8 0 = some (0, 2) := by kernel_rfl
theorem fd8_1 : fdOf Tryz.prog 8 1 = some (1, 3) := by kernel_rfl
theorem fd8_2 : fdOf Tryz.prog 8 2 = some (2, 4) := by kernel_rfl
theorem fd8_3 : fdOf Tryz.prog 8 3 = some (3, 6) := by kernel_rfl
theorem fd23_0 : fdOf Tryz.prog 23 0 = some (0, 4) := by kernel_rfl
theorem fd23_1 : fdOf Tryz.prog 23 1 = some (1, 22) := by kernel_rfl
theorem fd24_0 : fdOf Tryz.prog 24 0 = some (0, 4) := by kernel_rfl
theorem fd24_1 : fdOf Tryz.prog 24 1 = some (1, 22) := by kernel_rfl
theorem fd25_0 : fdOf Tryz.prog 25 0 = some (0, 24) := by kernel_rfl
theorem fd25_1 : fdOf Tryz.prog 25 1 = some (2, 3) := by kernel_rfl
theorem fd26_0 : fdOf Tryz.prog 26 0 = some (0, 24) := by kernel_rfl
theorem fd26_1 : fdOf Tryz.prog 26 1 = some (2, 3) := by kernel_rfl
theorem fd27_0 : fdOf Tryz.prog 27 0 = some (0, 26) := by kernel_rfl
theorem fd27_1 : fdOf Tryz.prog 27 1 = some (3, 26) := by kernel_rfl
theorem fd28_0 : fdOf Tryz.prog 28 0 = some (0, 26) := by kernel_rfl
theorem fd28_1 : fdOf Tryz.prog 28 1 = some (3, 26) := by kernel_rfl
theorem fd46_0 : fdOf Tryz.prog 46 0 = some (0, 28) := by kernel_rfl
theorem fd46_1 : fdOf Tryz.prog 46 1 = some (6, 26) := by kernel_rfl
theorem fd47_0 : fdOf Tryz.prog 47 0 = some (0, 28) := by kernel_rfl
theorem fd47_1 : fdOf Tryz.prog 47 1 = some (6, 26) := by kernel_rfl
theorem fd147_0 : fdOf Tryz.prog 147 0 = some (0, 146) := by kernel_rfl
theorem fd148_0 : fdOf Tryz.prog 148 0 = some (0, 146) := by kernel_rfl
theorem annuluslaw8_GaussTells.ok : FnOK Tryz.prog 3 157 (bodyOf Tryz.f3) [.tmp 12] := ⟨mix, Tryz.f3, Tryz.func3, rfl, rfl, rfl⟩
theorem annuluslaw8_GaussTells.dr : drP (bodyOf Tryz.f3) := drP_of (by kernel_rfl)
theorem annuluslaw8_GaussTells.call : callable Tryz.prog 3 = true := by kernel_rfl
theorem annuluslaw8_known.ok : FnOK Tryz.prog 7 54 (bodyOf Tryz.f7) [.tmp 0] := ⟨mix, Tryz.f7, Tryz.func7, rfl, rfl, rfl⟩
theorem annuluslaw8_known.dr : drP (bodyOf Tryz.f7) := drP_of (by kernel_rfl)
theorem annuluslaw8_known.call : callable Tryz.prog 7 = true := by kernel_rfl
theorem annuluslaw8_fewCplx.ok : FnOK Tryz.prog 8 11 (bodyOf Tryz.f8) [.tmp 2] := ⟨mix, Tryz.f8, Tryz.func8, rfl, rfl, rfl⟩
theorem annuluslaw8_fewCplx.dr : drP (bodyOf Tryz.f8) := drP_of (by kernel_rfl)
theorem annuluslaw8_fewCplx.call : callable Tryz.prog 8 = true := by kernel_rfl
theorem annuluslaw8_few.ok : FnOK Tryz.prog 9 18 (bodyOf Tryz.f9) [.tmp 2] := ⟨mix, Tryz.f9, Tryz.func9, rfl, rfl, rfl⟩
theorem annuluslaw8_few.dr : drP (bodyOf Tryz.f9) := drP_of (by kernel_rfl)
theorem annuluslaw8_few.call : callable Tryz.prog 9 = true := by kernel_rfl
theorem annulusref8_Cplx.ok : FnOK Tryz.prog 10 10 (bodyOf Tryz.f10) [.cell 2 28] := ⟨mix, Tryz.f10, Tryz.func10, rfl, rfl, rfl⟩
theorem annulusref8_Cplx.dr : drP (bodyOf Tryz.f10) := drP_of (by kernel_rfl)
theorem annulusref8_Cplx.call : callable Tryz.prog 10 = true := by kernel_rfl
theorem annulusref4_Neg.ok : FnOK Tryz.prog 11 9 (bodyOf Tryz.f11) [.cell 2 26] := ⟨mix, Tryz.f11, Tryz.func11, rfl, rfl, rfl⟩
theorem annulusref4_Neg.dr : drP (bodyOf Tryz.f11) := drP_of (by kernel_rfl)
theorem annulusref4_Neg.call : callable Tryz.prog 11 = true := by kernel_rfl
theorem annulusref4_Scale.ok : FnOK Tryz.prog 12 18 (bodyOf Tryz.f12) [.cell 4 26] := ⟨mix, Tryz.f12, Tryz.func12, rfl, rfl, rfl⟩
theorem annulusref4_Scale.dr : drP (bodyOf Tryz.f12) := drP_of (by kernel_rfl)
theorem annulusref4_Scale.call : callable Tryz.prog 12 = true := by kernel_rfl
theorem annulusref8_Equal.ok : FnOK Tryz.prog 13 17 (bodyOf Tryz.f13) [.tmp 4] := ⟨mix, Tryz.f13, Tryz.func13, rfl, rfl, rfl⟩
theorem annulusref8_Equal.dr : drP (bodyOf Tryz.f13) := drP_of (by kernel_rfl)
theorem annulusref8_Equal.call : callable Tryz.prog 13 = true := by kernel_rfl
theorem gauss_Of.ok : FnOK Tryz.prog 14 10 (bodyOf Tryz.f14) [.cell 4 28] := ⟨mix, Tryz.f14, Tryz.func14, rfl, rfl, rfl⟩
theorem gauss_Of.dr : drP (bodyOf Tryz.f14) := drP_of (by kernel_rfl)
theorem gauss_Of.call : callable Tryz.prog 14 = true := by kernel_rfl
theorem annulusref8_Of.ok : FnOK Tryz.prog 15 10 (bodyOf Tryz.f15) [.cell 4 28] := ⟨mix, Tryz.f15, Tryz.func15, rfl, rfl, rfl⟩
theorem annulusref8_Of.dr : drP (bodyOf Tryz.f15) := drP_of (by kernel_rfl)
theorem annulusref8_Of.call : callable Tryz.prog 15 = true := by kernel_rfl
theorem gauss_Add.ok : FnOK Tryz.prog 16 16 (bodyOf Tryz.f16) [.cell 4 28] := ⟨mix, Tryz.f16, Tryz.func16, rfl, rfl, rfl⟩
theorem gauss_Add.dr : drP (bodyOf Tryz.f16) := drP_of (by kernel_rfl)
theorem gauss_Add.call : callable Tryz.prog 16 = true := by kernel_rfl
theorem annulusref8_Add.ok : FnOK Tryz.prog 17 16 (bodyOf Tryz.f17) [.cell 4 28] := ⟨mix, Tryz.f17, Tryz.func17, rfl, rfl, rfl⟩
theorem annulusref8_Add.dr : drP (bodyOf Tryz.f17) := drP_of (by kernel_rfl)
theorem annulusref8_Add.call : callable Tryz.prog 17 = true := by kernel_rfl
theorem gauss_Sub.ok : FnOK Tryz.prog 18 16 (bodyOf Tryz.f18) [.cell 4 28] := ⟨mix, Tryz.f18, Tryz.func18, rfl, rfl, rfl⟩
theorem gauss_Sub.dr : drP (bodyOf Tryz.f18) := drP_of (by kernel_rfl)
theorem gauss_Sub.call : callable Tryz.prog 18 = true := by kernel_rfl
theorem annulusref8_Sub.ok : FnOK Tryz.prog 19 9 (bodyOf Tryz.f19) [.cell 4 28] := ⟨mix, Tryz.f19, Tryz.func19, rfl, rfl, rfl⟩
theorem annulusref8_Sub.dr : drP (bodyOf Tryz.f19) := drP_of (by kernel_rfl)
theorem annulusref8_Sub.call : callable Tryz.prog 19 = true := by kernel_rfl
theorem gauss_Mul.ok : FnOK Tryz.prog 20 28 (bodyOf Tryz.f20) [.cell 4 28] := ⟨mix, Tryz.f20, Tryz.func20, rfl, rfl, rfl⟩
theorem gauss_Mul.dr : drP (bodyOf Tryz.f20) := drP_of (by kernel_rfl)
theorem gauss_Mul.call : callable Tryz.prog 20 = true := by kernel_rfl
theorem annulusref8_Mul.ok : FnOK Tryz.prog 21 28 (bodyOf Tryz.f21) [.cell 4 28] := ⟨mix, Tryz.f21, Tryz.func21, rfl, rfl, rfl⟩
theorem annulusref8_Mul.dr : drP (bodyOf Tryz.f21) := drP_of (by kernel_rfl)
theorem annulusref8_Mul.call : callable Tryz.prog 21 = true := by kernel_rfl
theorem gauss_Neg.ok : FnOK Tryz.prog 22 10 (bodyOf Tryz.f22) [.cell 2 28] := ⟨mix, Tryz.f22, Tryz.func22, rfl, rfl, rfl⟩
theorem gauss_Neg.dr : drP (bodyOf Tryz.f22) := drP_of (by kernel_rfl)
theorem gauss_Neg.call : callable Tryz.prog 22 = true := by kernel_rfl
theorem annulusref8_Neg.ok : FnOK Tryz.prog 23 10 (bodyOf Tryz.f23) [.cell 2 28] := ⟨mix, Tryz.f23, Tryz.func23, rfl, rfl, rfl⟩
theorem annulusref8_Neg.dr : drP (bodyOf Tryz.f23) := drP_of (by kernel_rfl)
theorem annulusref8_Neg.call : callable Tryz.prog 23 = true := by kernel_rfl
theorem gauss_Conj.ok : FnOK Tryz.prog 24 10 (bodyOf Tryz.f24) [.cell 2 28] := ⟨mix, Tryz.f24, Tryz.func24, rfl, rfl, rfl⟩
theorem gauss_Conj.dr : drP (bodyOf Tryz.f24) := drP_of (by kernel_rfl)
theorem gauss_Conj.call : callable Tryz.prog 24 = true := by kernel_rfl
theorem annulusref4_Equal.ok : FnOK Tryz.prog 25 17 (bodyOf Tryz.f25) [.tmp 4] := ⟨mix, Tryz.f25, Tryz.func25, rfl, rfl, rfl⟩
theorem annulusref4_Equal.dr : drP (bodyOf Tryz.f25) := drP_of (by kernel_rfl)
theorem annulusref4_Equal.call : callable Tryz.prog 25 = true := by kernel_rfl
theorem gauss_Norm.ok : FnOK Tryz.prog 26 14 (bodyOf Tryz.f26) [.cell 2 26] := ⟨mix, Tryz.f26, Tryz.func26, rfl, rfl, rfl⟩
theorem gauss_Norm.dr : drP (bodyOf Tryz.f26) := drP_of (by kernel_rfl)
theorem gauss_Norm.call : callable Tryz.prog 26 = true := by kernel_rfl
theorem annulusref8_Norm.ok : FnOK Tryz.prog 27 14 (bodyOf Tryz.f27) [.cell 2 26] := ⟨mix, Tryz.f27, Tryz.func27, rfl, rfl, rfl⟩
theorem annulusref8_Norm.dr : drP (bodyOf Tryz.f27) := drP_of (by kernel_rfl)
theorem annulusref8_Norm.call : callable Tryz.prog 27 = true := by kernel_rfl
theorem gauss_Scale.ok : FnOK Tryz.prog 28 14 (bodyOf Tryz.f28) [.cell 4 28] := ⟨mix, Tryz.f28, Tryz.func28, rfl, rfl, rfl⟩
theorem gauss_Scale.dr : drP (bodyOf Tryz.f28) := drP_of (by kernel_rfl)
theorem gauss_Scale.call : callable Tryz.prog 28 = true := by kernel_rfl
theorem gauss_Times.ok : FnOK Tryz.prog 29 14 (bodyOf Tryz.f29) [.cell 4 28] := ⟨mix, Tryz.f29, Tryz.func29, rfl, rfl, rfl⟩
theorem gauss_Times.dr : drP (bodyOf Tryz.f29) := drP_of (by kernel_rfl)
theorem gauss_Times.call : callable Tryz.prog 29 = true := by kernel_rfl
theorem annulusref8_Times.ok : FnOK Tryz.prog 30 14 (bodyOf Tryz.f30) [.cell 4 28] := ⟨mix, Tryz.f30, Tryz.func30, rfl, rfl, rfl⟩
theorem annulusref8_Times.dr : drP (bodyOf Tryz.f30) := drP_of (by kernel_rfl)
theorem annulusref8_Times.call : callable Tryz.prog 30 = true := by kernel_rfl
theorem annulusref4_Make.ok : FnOK Tryz.prog 31 30 (bodyOf Tryz.f31) [.cell 4 26] := ⟨mix, Tryz.f31, Tryz.func31, rfl, rfl, rfl⟩
theorem annulusref4_Make.dr : drP (bodyOf Tryz.f31) := drP_of (by kernel_rfl)
theorem annulusref4_Make.call : callable Tryz.prog 31 = true := by kernel_rfl
theorem gauss_Pow.ok : FnOK Tryz.prog 32 17 (bodyOf Tryz.f32) [.cell 4 28] := ⟨mix, Tryz.f32, Tryz.func32, rfl, rfl, rfl⟩
theorem gauss_Pow.dr : drP (bodyOf Tryz.f32) := drP_of (by kernel_rfl)
theorem gauss_Pow.call : callable Tryz.prog 32 = true := by kernel_rfl
theorem annulusref8_Pow.ok : FnOK Tryz.prog 33 18 (bodyOf Tryz.f33) [.cell 4 28] := ⟨mix, Tryz.f33, Tryz.func33, rfl, rfl, rfl⟩
theorem annulusref8_Pow.dr : drP (bodyOf Tryz.f33) := drP_of (by kernel_rfl)
theorem annulusref8_Pow.call : callable Tryz.prog 33 = true := by kernel_rfl
theorem gauss_Zero.ok : FnOK Tryz.prog 34 13 (bodyOf Tryz.f34) [.tmp 2] := ⟨mix, Tryz.f34, Tryz.func34, rfl, rfl, rfl⟩
theorem gauss_Zero.dr : drP (bodyOf Tryz.f34) := drP_of (by kernel_rfl)
theorem gauss_Zero.call : callable Tryz.prog 34 = true := by kernel_rfl
theorem annulusref8_Zero.ok : FnOK Tryz.prog 35 13 (bodyOf Tryz.f35) [.tmp 2] := ⟨mix, Tryz.f35, Tryz.func35, rfl, rfl, rfl⟩
theorem annulusref8_Zero.dr : drP (bodyOf Tryz.f35) := drP_of (by kernel_rfl)
theorem annulusref8_Zero.call : callable Tryz.prog 35 = true := by kernel_rfl
theorem gauss_Same.ok : FnOK Tryz.prog 36 17 (bodyOf Tryz.f36) [.tmp 4] := ⟨mix, Tryz.f36, Tryz.func36, rfl, rfl, rfl⟩
theorem gauss_Same.dr : drP (bodyOf Tryz.f36) := drP_of (by kernel_rfl)
theorem gauss_Same.call : callable Tryz.prog 36 = true := by kernel_rfl
theorem annulusref4_Sign.ok : FnOK Tryz.prog 59 6 (bodyOf Tryz.f59) [.tmp 2] := ⟨mix, Tryz.f59, Tryz.func59, rfl, rfl, rfl⟩
theorem annulusref4_Sign.dr : drP (bodyOf Tryz.f59) := drP_of (by kernel_rfl)
theorem annulusref4_Sign.call : callable Tryz.prog 59 = true := by kernel_rfl
theorem gauss_Exact.ok : FnOK Tryz.prog 62 30 (bodyOf Tryz.f62) [.cell 2 28, .tmp 3] := ⟨mix, Tryz.f62, Tryz.func62, rfl, rfl, rfl⟩
theorem gauss_Exact.dr : drP (bodyOf Tryz.f62) := drP_of (by kernel_rfl)
theorem gauss_Exact.call : callable Tryz.prog 62 = true := by kernel_rfl
theorem math_Inf.ok : FnOK Tryz.prog 63 8 (bodyOf Tryz.f63) [.tmp 2] := ⟨mix, Tryz.f63, Tryz.func63, rfl, rfl, rfl⟩
theorem math_Inf.dr : drP (bodyOf Tryz.f63) := drP_of (by kernel_rfl)
theorem math_Inf.call : callable Tryz.prog 63 = true := by kernel_rfl
theorem annulusref4_Of.ok : FnOK Tryz.prog 64 6 (bodyOf Tryz.f64) [.cell 2 26] := ⟨mix, Tryz.f64, Tryz.func64, rfl, rfl, rfl⟩
theorem annulusref4_Of.dr : drP (bodyOf Tryz.f64) := drP_of (by kernel_rfl)
theorem annulusref4_Of.call : callable Tryz.prog 64 = true := by kernel_rfl
theorem gauss_Float.ok : FnOK Tryz.prog 65 10 (bodyOf Tryz.f65) [.tmp 2] := ⟨mix, Tryz.f65, Tryz.func65, rfl, rfl, rfl⟩
theorem gauss_Float.dr : drP (bodyOf Tryz.f65) := drP_of (by kernel_rfl)
theorem gauss_Float.call : callable Tryz.prog 65 = true := by kernel_rfl
theorem annulusref4_Exact.ok : FnOK Tryz.prog 66 8 (bodyOf Tryz.f66) [.cell 2 26] := ⟨mix, Tryz.f66, Tryz.func66, rfl, rfl, rfl⟩
theorem annulusref4_Exact.dr : drP (bodyOf Tryz.f66) := drP_of (by kernel_rfl)
theorem annulusref4_Exact.call : callable Tryz.prog 66 = true := by kernel_rfl
theorem annulusref1_Neg.ok : FnOK Tryz.prog 67 10 (bodyOf Tryz.f67) [.cell 2 24] := ⟨mix, Tryz.f67, Tryz.func67, rfl, rfl, rfl⟩
theorem annulusref1_Neg.dr : drP (bodyOf Tryz.f67) := drP_of (by kernel_rfl)
theorem annulusref1_Neg.call : callable Tryz.prog 67 = true := by kernel_rfl
theorem dyad_Of.ok : FnOK Tryz.prog 68 6 (bodyOf Tryz.f68) [.cell 2 26] := ⟨mix, Tryz.f68, Tryz.func68, rfl, rfl, rfl⟩
theorem dyad_Of.dr : drP (bodyOf Tryz.f68) := drP_of (by kernel_rfl)
theorem dyad_Of.call : callable Tryz.prog 68 = true := by kernel_rfl
theorem dyad_Add.ok : FnOK Tryz.prog 69 40 (bodyOf Tryz.f69) [.cell 4 26] := ⟨mix, Tryz.f69, Tryz.func69, rfl, rfl, rfl⟩
theorem dyad_Add.dr : drP (bodyOf Tryz.f69) := drP_of (by kernel_rfl)
theorem dyad_Add.call : callable Tryz.prog 69 = true := by kernel_rfl
theorem annulusref4_Add.ok : FnOK Tryz.prog 70 38 (bodyOf Tryz.f70) [.cell 4 26] := ⟨mix, Tryz.f70, Tryz.func70, rfl, rfl, rfl⟩
theorem annulusref4_Add.dr : drP (bodyOf Tryz.f70) := drP_of (by kernel_rfl)
theorem annulusref4_Add.call : callable Tryz.prog 70 = true := by kernel_rfl
theorem dyad_Sub.ok : FnOK Tryz.prog 71 13 (bodyOf Tryz.f71) [.cell 4 26] := ⟨mix, Tryz.f71, Tryz.func71, rfl, rfl, rfl⟩
theorem dyad_Sub.dr : drP (bodyOf Tryz.f71) := drP_of (by kernel_rfl)
theorem dyad_Sub.call : callable Tryz.prog 71 = true := by kernel_rfl
theorem dyad_Mul.ok : FnOK Tryz.prog 72 18 (bodyOf Tryz.f72) [.cell 4 26] := ⟨mix, Tryz.f72, Tryz.func72, rfl, rfl, rfl⟩
theorem dyad_Mul.dr : drP (bodyOf Tryz.f72) := drP_of (by kernel_rfl)
theorem dyad_Mul.call : callable Tryz.prog 72 = true := by kernel_rfl
theorem annulusref4_Sub.ok : FnOK Tryz.prog 73 9 (bodyOf Tryz.f73) [.cell 4 26] := ⟨mix, Tryz.f73, Tryz.func73, rfl, rfl, rfl⟩
theorem annulusref4_Sub.dr : drP (bodyOf Tryz.f73) := drP_of (by kernel_rfl)
theorem annulusref4_Sub.call : callable Tryz.prog 73 = true := by kernel_rfl
theorem annulusref4_Mul.ok : FnOK Tryz.prog 74 16 (bodyOf Tryz.f74) [.cell 4 26] := ⟨mix, Tryz.f74, Tryz.func74, rfl, rfl, rfl⟩
theorem annulusref4_Mul.dr : drP (bodyOf Tryz.f74) := drP_of (by kernel_rfl)
theorem annulusref4_Mul.call : callable Tryz.prog 74 = true := by kernel_rfl
theorem dyad_Neg.ok : FnOK Tryz.prog 75 10 (bodyOf Tryz.f75) [.cell 2 26] := ⟨mix, Tryz.f75, Tryz.func75, rfl, rfl, rfl⟩
theorem dyad_Neg.dr : drP (bodyOf Tryz.f75) := drP_of (by kernel_rfl)
theorem dyad_Neg.call : callable Tryz.prog 75 = true := by kernel_rfl
theorem dyad_Scale.ok : FnOK Tryz.prog 76 14 (bodyOf Tryz.f76) [.cell 4 26] := ⟨mix, Tryz.f76, Tryz.func76, rfl, rfl, rfl⟩
theorem dyad_Scale.dr : drP (bodyOf Tryz.f76) := drP_of (by kernel_rfl)
theorem dyad_Scale.call : callable Tryz.prog 76 = true := by kernel_rfl
theorem annulusref1_SameInt.ok : FnOK Tryz.prog 77 17 (bodyOf Tryz.f77) [.tmp 4] := ⟨mix, Tryz.f77, Tryz.func77, rfl, rfl, rfl⟩
theorem annulusref1_SameInt.dr : drP (bodyOf Tryz.f77) := drP_of (by kernel_rfl)
theorem annulusref1_SameInt.call : callable Tryz.prog 77 = true := by kernel_rfl
theorem annulusref1_Norm.ok : FnOK Tryz.prog 78 16 (bodyOf Tryz.f78) [.cell 2 24] := ⟨mix, Tryz.f78, Tryz.func78, rfl, rfl, rfl⟩
theorem annulusref1_Norm.dr : drP (bodyOf Tryz.f78) := drP_of (by kernel_rfl)
theorem annulusref1_Norm.call : callable Tryz.prog 78 = true := by kernel_rfl
theorem annulusref1_Low.ok : FnOK Tryz.prog 79 17 (bodyOf Tryz.f79) [.tmp 2] := ⟨mix, Tryz.f79, Tryz.func79, rfl, rfl, rfl⟩
theorem annulusref1_Low.dr : drP (bodyOf Tryz.f79) := drP_of (by kernel_rfl)
theorem annulusref1_Low.call : callable Tryz.prog 79 = true := by kernel_rfl
theorem annulusref1_Shr.ok : FnOK Tryz.prog 80 49 (bodyOf Tryz.f80) [.tmp 4] := ⟨mix, Tryz.f80, Tryz.func80, rfl, rfl, rfl⟩
theorem annulusref1_Shr.dr : drP (bodyOf Tryz.f80) := drP_of (by kernel_rfl)
theorem annulusref1_Shr.call : callable Tryz.prog 80 = true := by kernel_rfl
theorem dyad_Sign.ok : FnOK Tryz.prog 81 6 (bodyOf Tryz.f81) [.tmp 2] := ⟨mix, Tryz.f81, Tryz.func81, rfl, rfl, rfl⟩
theorem dyad_Sign.dr : drP (bodyOf Tryz.f81) := drP_of (by kernel_rfl)
theorem dyad_Sign.call : callable Tryz.prog 81 = true := by kernel_rfl
theorem dyad_Same.ok : FnOK Tryz.prog 82 9 (bodyOf Tryz.f82) [.tmp 4] := ⟨mix, Tryz.f82, Tryz.func82, rfl, rfl, rfl⟩
theorem dyad_Same.dr : drP (bodyOf Tryz.f82) := drP_of (by kernel_rfl)
theorem dyad_Same.call : callable Tryz.prog 82 = true := by kernel_rfl
theorem annulusref1_Sign.ok : FnOK Tryz.prog 95 14 (bodyOf Tryz.f95) [.tmp 2] := ⟨mix, Tryz.f95, Tryz.func95, rfl, rfl, rfl⟩
theorem annulusref1_Sign.dr : drP (bodyOf Tryz.f95) := drP_of (by kernel_rfl)
theorem annulusref1_Sign.call : callable Tryz.prog 95 = true := by kernel_rfl
theorem gauss_exact.ok : FnOK Tryz.prog 97 25 (bodyOf Tryz.f97) [.cell 2 26, .tmp 3] := ⟨mix, Tryz.f97, Tryz.func97, rfl, rfl, rfl⟩
theorem gauss_exact.dr : drP (bodyOf Tryz.f97) := drP_of (by kernel_rfl)
theorem gauss_exact.call : callable Tryz.prog 97 = true := by kernel_rfl
theorem annulusref1_Of.ok : FnOK Tryz.prog 99 20 (bodyOf Tryz.f99) [.cell 2 24] := ⟨mix, Tryz.f99, Tryz.func99, rfl, rfl, rfl⟩
theorem annulusref1_Of.dr : drP (bodyOf Tryz.f99) := drP_of (by kernel_rfl)
theorem annulusref1_Of.call : callable Tryz.prog 99 = true := by kernel_rfl
theorem gauss_float.ok : FnOK Tryz.prog 100 34 (bodyOf Tryz.f100) [.tmp 2] := ⟨mix, Tryz.f100, Tryz.func100, rfl, rfl, rfl⟩
theorem gauss_float.dr : drP (bodyOf Tryz.f100) := drP_of (by kernel_rfl)
theorem gauss_float.call : callable Tryz.prog 100 = true := by kernel_rfl
theorem annulusref4_exact.ok : FnOK Tryz.prog 101 28 (bodyOf Tryz.f101) [.cell 4 26] := ⟨mix, Tryz.f101, Tryz.func101, rfl, rfl, rfl⟩
theorem annulusref4_exact.dr : drP (bodyOf Tryz.f101) := drP_of (by kernel_rfl)
theorem annulusref4_exact.call : callable Tryz.prog 101 = true := by kernel_rfl
theorem dyad_Raw.ok : FnOK Tryz.prog 102 27 (bodyOf Tryz.f102) [.cell 4 26] := ⟨mix, Tryz.f102, Tryz.func102, rfl, rfl, rfl⟩
theorem dyad_Raw.dr : drP (bodyOf Tryz.f102) := drP_of (by kernel_rfl)
theorem dyad_Raw.call : callable Tryz.prog 102 = true := by kernel_rfl
theorem whole_Of.ok : FnOK Tryz.prog 103 19 (bodyOf Tryz.f103) [.cell 2 24] := ⟨mix, Tryz.f103, Tryz.func103, rfl, rfl, rfl⟩
theorem whole_Of.dr : drP (bodyOf Tryz.f103) := drP_of (by kernel_rfl)
theorem whole_Of.call : callable Tryz.prog 103 = true := by kernel_rfl
theorem dyad_of.ok : FnOK Tryz.prog 104 9 (bodyOf Tryz.f104) [.cell 2 26] := ⟨mix, Tryz.f104, Tryz.func104, rfl, rfl, rfl⟩
theorem dyad_of.dr : drP (bodyOf Tryz.f104) := drP_of (by kernel_rfl)
theorem dyad_of.call : callable Tryz.prog 104 = true := by kernel_rfl
theorem whole_Add.ok : FnOK Tryz.prog 105 47 (bodyOf Tryz.f105) [.cell 4 24] := ⟨mix, Tryz.f105, Tryz.func105, rfl, rfl, rfl⟩
theorem whole_Add.dr : drP (bodyOf Tryz.f105) := drP_of (by kernel_rfl)
theorem whole_Add.call : callable Tryz.prog 105 = true := by kernel_rfl
theorem whole_Up.ok : FnOK Tryz.prog 106 12 (bodyOf Tryz.f106) [.cell 4 24] := ⟨mix, Tryz.f106, Tryz.func106, rfl, rfl, rfl⟩
theorem whole_Up.dr : drP (bodyOf Tryz.f106) := drP_of (by kernel_rfl)
theorem whole_Up.call : callable Tryz.prog 106 = true := by kernel_rfl
theorem annulusref1_AddInt.ok : FnOK Tryz.prog 107 54 (bodyOf Tryz.f107) [.cell 4 24] := ⟨mix, Tryz.f107, Tryz.func107, rfl, rfl, rfl⟩
theorem annulusref1_AddInt.dr : drP (bodyOf Tryz.f107) := drP_of (by kernel_rfl)
theorem annulusref1_AddInt.call : callable Tryz.prog 107 = true := by kernel_rfl
theorem annulusref1_ShlInt.ok : FnOK Tryz.prog 108 14 (bodyOf Tryz.f108) [.cell 4 24] := ⟨mix, Tryz.f108, Tryz.func108, rfl, rfl, rfl⟩
theorem annulusref1_ShlInt.dr : drP (bodyOf Tryz.f108) := drP_of (by kernel_rfl)
theorem annulusref1_ShlInt.call : callable Tryz.prog 108 = true := by kernel_rfl
theorem whole_Neg.ok : FnOK Tryz.prog 109 9 (bodyOf Tryz.f109) [.cell 2 24] := ⟨mix, Tryz.f109, Tryz.func109, rfl, rfl, rfl⟩
theorem whole_Neg.dr : drP (bodyOf Tryz.f109) := drP_of (by kernel_rfl)
theorem whole_Neg.call : callable Tryz.prog 109 = true := by kernel_rfl
theorem whole_Mul.ok : FnOK Tryz.prog 110 16 (bodyOf Tryz.f110) [.cell 4 24] := ⟨mix, Tryz.f110, Tryz.func110, rfl, rfl, rfl⟩
theorem whole_Mul.dr : drP (bodyOf Tryz.f110) := drP_of (by kernel_rfl)
theorem whole_Mul.call : callable Tryz.prog 110 = true := by kernel_rfl
theorem dyad_kept.ok : FnOK Tryz.prog 111 6 (bodyOf Tryz.f111) [.tmp 2] := ⟨mix, Tryz.f111, Tryz.func111, rfl, rfl, rfl⟩
theorem dyad_kept.dr : drP (bodyOf Tryz.f111) := drP_of (by kernel_rfl)
theorem dyad_kept.call : callable Tryz.prog 111 = true := by kernel_rfl
theorem annulusref1_MulInt.ok : FnOK Tryz.prog 112 23 (bodyOf Tryz.f112) [.cell 4 24] := ⟨mix, Tryz.f112, Tryz.func112, rfl, rfl, rfl⟩
theorem annulusref1_MulInt.dr : drP (bodyOf Tryz.f112) := drP_of (by kernel_rfl)
theorem annulusref1_MulInt.call : callable Tryz.prog 112 = true := by kernel_rfl
theorem dyad_held.ok : FnOK Tryz.prog 113 6 (bodyOf Tryz.f113) [.tmp 2] := ⟨mix, Tryz.f113, Tryz.func113, rfl, rfl, rfl⟩
theorem dyad_held.dr : drP (bodyOf Tryz.f113) := drP_of (by kernel_rfl)
theorem dyad_held.call : callable Tryz.prog 113 = true := by kernel_rfl
theorem annulusref1_Same.ok : FnOK Tryz.prog 114 26 (bodyOf Tryz.f114) [.tmp 4] := ⟨mix, Tryz.f114, Tryz.func114, rfl, rfl, rfl⟩
theorem annulusref1_Same.dr : drP (bodyOf Tryz.f114) := drP_of (by kernel_rfl)
theorem annulusref1_Same.call : callable Tryz.prog 114 = true := by kernel_rfl
theorem annulusref1_Trim.ok : FnOK Tryz.prog 115 21 (bodyOf Tryz.f115) [.tmp 2] := ⟨mix, Tryz.f115, Tryz.func115, rfl, rfl, rfl⟩
theorem annulusref1_Trim.dr : drP (bodyOf Tryz.f115) := drP_of (by kernel_rfl)
theorem annulusref1_Trim.call : callable Tryz.prog 115 = true := by kernel_rfl
theorem annulusref1_Bit.ok : FnOK Tryz.prog 116 27 (bodyOf Tryz.f116) [.tmp 4] := ⟨mix, Tryz.f116, Tryz.func116, rfl, rfl, rfl⟩
theorem annulusref1_Bit.dr : drP (bodyOf Tryz.f116) := drP_of (by kernel_rfl)
theorem annulusref1_Bit.call : callable Tryz.prog 116 = true := by kernel_rfl
theorem annulusref1_at.ok : FnOK Tryz.prog 117 14 (bodyOf Tryz.f117) [.tmp 4] := ⟨mix, Tryz.f117, Tryz.func117, rfl, rfl, rfl⟩
theorem annulusref1_at.dr : drP (bodyOf Tryz.f117) := drP_of (by kernel_rfl)
theorem annulusref1_at.call : callable Tryz.prog 117 = true := by kernel_rfl
theorem whole_Sign.ok : FnOK Tryz.prog 118 19 (bodyOf Tryz.f118) [.tmp 2] := ⟨mix, Tryz.f118, Tryz.func118, rfl, rfl, rfl⟩
theorem whole_Sign.dr : drP (bodyOf Tryz.f118) := drP_of (by kernel_rfl)
theorem whole_Sign.call : callable Tryz.prog 118 = true := by kernel_rfl
theorem dyad_Cmp.ok : FnOK Tryz.prog 119 9 (bodyOf Tryz.f119) [.tmp 4] := ⟨mix, Tryz.f119, Tryz.func119, rfl, rfl, rfl⟩
theorem dyad_Cmp.dr : drP (bodyOf Tryz.f119) := drP_of (by kernel_rfl)
theorem dyad_Cmp.call : callable Tryz.prog 119 = true := by kernel_rfl
theorem math_IsInf.ok : FnOK Tryz.prog 127 15 (bodyOf Tryz.f127) [.tmp 4] := ⟨mix, Tryz.f127, Tryz.func127, rfl, rfl, rfl⟩
theorem math_IsInf.dr : drP (bodyOf Tryz.f127) := drP_of (by kernel_rfl)
theorem math_IsInf.call : callable Tryz.prog 127 = true := by kernel_rfl
theorem math_IsNaN.ok : FnOK Tryz.prog 128 6 (bodyOf Tryz.f128) [.tmp 2] := ⟨mix, Tryz.f128, Tryz.func128, rfl, rfl, rfl⟩
theorem math_IsNaN.dr : drP (bodyOf Tryz.f128) := drP_of (by kernel_rfl)
theorem math_IsNaN.call : callable Tryz.prog 128 = true := by kernel_rfl
theorem math_Frexp.ok : FnOK Tryz.prog 129 12 (bodyOf Tryz.f129) [.tmp 2, .tmp 3] := ⟨mix, Tryz.f129, Tryz.func129, rfl, rfl, rfl⟩
theorem math_Frexp.dr : drP (bodyOf Tryz.f129) := drP_of (by kernel_rfl)
theorem math_Frexp.call : callable Tryz.prog 129 = true := by kernel_rfl
theorem dyad_Make.ok : FnOK Tryz.prog 130 9 (bodyOf Tryz.f130) [.cell 4 26] := ⟨mix, Tryz.f130, Tryz.func130, rfl, rfl, rfl⟩
theorem dyad_Make.dr : drP (bodyOf Tryz.f130) := drP_of (by kernel_rfl)
theorem dyad_Make.call : callable Tryz.prog 130 = true := by kernel_rfl
theorem math_Ldexp.ok : FnOK Tryz.prog 131 11 (bodyOf Tryz.f131) [.tmp 4] := ⟨mix, Tryz.f131, Tryz.func131, rfl, rfl, rfl⟩
theorem math_Ldexp.dr : drP (bodyOf Tryz.f131) := drP_of (by kernel_rfl)
theorem math_Ldexp.call : callable Tryz.prog 131 = true := by kernel_rfl
theorem nat_Bits.ok : FnOK Tryz.prog 132 20 (bodyOf Tryz.f132) [.tmp 2] := ⟨mix, Tryz.f132, Tryz.func132, rfl, rfl, rfl⟩
theorem nat_Bits.dr : drP (bodyOf Tryz.f132) := drP_of (by kernel_rfl)
theorem nat_Bits.call : callable Tryz.prog 132 = true := by kernel_rfl
theorem whole_Small.ok : FnOK Tryz.prog 133 49 (bodyOf Tryz.f133) [.tmp 2, .tmp 3] := ⟨mix, Tryz.f133, Tryz.func133, rfl, rfl, rfl⟩
theorem whole_Small.dr : drP (bodyOf Tryz.f133) := drP_of (by kernel_rfl)
theorem whole_Small.call : callable Tryz.prog 133 = true := by kernel_rfl
theorem whole_Shr.ok : FnOK Tryz.prog 134 30 (bodyOf Tryz.f134) [.cell 4 24] := ⟨mix, Tryz.f134, Tryz.func134, rfl, rfl, rfl⟩
theorem whole_Shr.dr : drP (bodyOf Tryz.f134) := drP_of (by kernel_rfl)
theorem whole_Shr.call : callable Tryz.prog 134 = true := by kernel_rfl
theorem whole_Norm.ok : FnOK Tryz.prog 135 8 (bodyOf Tryz.f135) [.cell 2 24] := ⟨mix, Tryz.f135, Tryz.func135, rfl, rfl, rfl⟩
theorem whole_Norm.dr : drP (bodyOf Tryz.f135) := drP_of (by kernel_rfl)
theorem whole_Norm.call : callable Tryz.prog 135 = true := by kernel_rfl
theorem nat_Low.ok : FnOK Tryz.prog 136 20 (bodyOf Tryz.f136) [.tmp 2] := ⟨mix, Tryz.f136, Tryz.func136, rfl, rfl, rfl⟩
theorem nat_Low.dr : drP (bodyOf Tryz.f136) := drP_of (by kernel_rfl)
theorem nat_Low.call : callable Tryz.prog 136 = true := by kernel_rfl
theorem nat_Downwards.ok : FnOK Tryz.prog 137 53 (bodyOf Tryz.f137) [.tmp 4] := ⟨mix, Tryz.f137, Tryz.func137, rfl, rfl, rfl⟩
theorem nat_Downwards.dr : drP (bodyOf Tryz.f137) := drP_of (by kernel_rfl)
theorem nat_Downwards.call : callable Tryz.prog 137 = true := by kernel_rfl
theorem whole_with.ok : FnOK Tryz.prog 138 15 (bodyOf Tryz.f138) [.cell 4 24] := ⟨mix, Tryz.f138, Tryz.func138, rfl, rfl, rfl⟩
theorem whole_with.dr : drP (bodyOf Tryz.f138) := drP_of (by kernel_rfl)
theorem whole_with.call : callable Tryz.prog 138 = true := by kernel_rfl
theorem nat_Add.ok : FnOK Tryz.prog 139 39 (bodyOf Tryz.f139) [.tmp 4] := ⟨mix, Tryz.f139, Tryz.func139, rfl, rfl, rfl⟩
theorem nat_Add.dr : drP (bodyOf Tryz.f139) := drP_of (by kernel_rfl)
theorem nat_Add.call : callable Tryz.prog 139 = true := by kernel_rfl
theorem nat_Sub.ok : FnOK Tryz.prog 140 42 (bodyOf Tryz.f140) [.tmp 4, .tmp 5] := ⟨mix, Tryz.f140, Tryz.func140, rfl, rfl, rfl⟩
theorem nat_Sub.dr : drP (bodyOf Tryz.f140) := drP_of (by kernel_rfl)
theorem nat_Sub.call : callable Tryz.prog 140 = true := by kernel_rfl
theorem nat_Up.ok : FnOK Tryz.prog 141 55 (bodyOf Tryz.f141) [.tmp 4] := ⟨mix, Tryz.f141, Tryz.func141, rfl, rfl, rfl⟩
theorem nat_Up.dr : drP (bodyOf Tryz.f141) := drP_of (by kernel_rfl)
theorem nat_Up.call : callable Tryz.prog 141 = true := by kernel_rfl
theorem annulusref1_Add.ok : FnOK Tryz.prog 142 40 (bodyOf Tryz.f142) [.tmp 4] := ⟨mix, Tryz.f142, Tryz.func142, rfl, rfl, rfl⟩
theorem annulusref1_Add.dr : drP (bodyOf Tryz.f142) := drP_of (by kernel_rfl)
theorem annulusref1_Add.call : callable Tryz.prog 142 = true := by kernel_rfl
theorem annulusref1_Sub.ok : FnOK Tryz.prog 143 41 (bodyOf Tryz.f143) [.tmp 4, .tmp 5] := ⟨mix, Tryz.f143, Tryz.func143, rfl, rfl, rfl⟩
theorem annulusref1_Sub.dr : drP (bodyOf Tryz.f143) := drP_of (by kernel_rfl)
theorem annulusref1_Sub.call : callable Tryz.prog 143 = true := by kernel_rfl
theorem annulusref1_Shl.ok : FnOK Tryz.prog 144 62 (bodyOf Tryz.f144) [.tmp 4] := ⟨mix, Tryz.f144, Tryz.func144, rfl, rfl, rfl⟩
theorem annulusref1_Shl.dr : drP (bodyOf Tryz.f144) := drP_of (by kernel_rfl)
theorem annulusref1_Shl.call : callable Tryz.prog 144 = true := by kernel_rfl
theorem nat_Mul.ok : FnOK Tryz.prog 145 71 (bodyOf Tryz.f145) [.tmp 4] := ⟨mix, Tryz.f145, Tryz.func145, rfl, rfl, rfl⟩
theorem nat_Mul.dr : drP (bodyOf Tryz.f145) := drP_of (by kernel_rfl)
theorem nat_Mul.call : callable Tryz.prog 145 = true := by kernel_rfl
theorem annulusref1_Mul.ok : FnOK Tryz.prog 146 68 (bodyOf Tryz.f146) [.tmp 4] := ⟨mix, Tryz.f146, Tryz.func146, rfl, rfl, rfl⟩
theorem annulusref1_Mul.dr : drP (bodyOf Tryz.f146) := drP_of (by kernel_rfl)
theorem annulusref1_Mul.call : callable Tryz.prog 146 = true := by kernel_rfl
theorem math_Abs.ok : FnOK Tryz.prog 153 7 (bodyOf Tryz.f153) [.tmp 2] := ⟨mix, Tryz.f153, Tryz.func153, rfl, rfl, rfl⟩
theorem math_Abs.dr : drP (bodyOf Tryz.f153) := drP_of (by kernel_rfl)
theorem math_Abs.call : callable Tryz.prog 153 = true := by kernel_rfl
theorem math_frexp.ok : FnOK Tryz.prog 155 38 (bodyOf Tryz.f155) [.tmp 2, .tmp 3] := ⟨mix, Tryz.f155, Tryz.func155, rfl, rfl, rfl⟩
theorem math_frexp.dr : drP (bodyOf Tryz.f155) := drP_of (by kernel_rfl)
theorem math_frexp.call : callable Tryz.prog 155 = true := by kernel_rfl
theorem math_ldexp.ok : FnOK Tryz.prog 157 63 (bodyOf Tryz.f157) [.tmp 4] := ⟨mix, Tryz.f157, Tryz.func157, rfl, rfl, rfl⟩
theorem math_ldexp.dr : drP (bodyOf Tryz.f157) := drP_of (by kernel_rfl)
theorem math_ldexp.call : callable Tryz.prog 157 = true := by kernel_rfl
theorem nat_cut.ok : FnOK Tryz.prog 158 21 (bodyOf Tryz.f158) [.tmp 2] := ⟨mix, Tryz.f158, Tryz.func158, rfl, rfl, rfl⟩
theorem nat_cut.dr : drP (bodyOf Tryz.f158) := drP_of (by kernel_rfl)
theorem nat_cut.call : callable Tryz.prog 158 = true := by kernel_rfl
theorem math_bits_Len32.ok : FnOK Tryz.prog 159 19 (bodyOf Tryz.f159) [.tmp 2] := ⟨mix, Tryz.f159, Tryz.func159, rfl, rfl, rfl⟩
theorem math_bits_Len32.dr : drP (bodyOf Tryz.f159) := drP_of (by kernel_rfl)
theorem math_bits_Len32.call : callable Tryz.prog 159 = true := by kernel_rfl
theorem nat_Shr.ok : FnOK Tryz.prog 160 9 (bodyOf Tryz.f160) [.tmp 4] := ⟨mix, Tryz.f160, Tryz.func160, rfl, rfl, rfl⟩
theorem nat_Shr.dr : drP (bodyOf Tryz.f160) := drP_of (by kernel_rfl)
theorem nat_Shr.call : callable Tryz.prog 160 = true := by kernel_rfl
theorem nat_Cmp.ok : FnOK Tryz.prog 161 47 (bodyOf Tryz.f161) [.tmp 4] := ⟨mix, Tryz.f161, Tryz.func161, rfl, rfl, rfl⟩
theorem nat_Cmp.dr : drP (bodyOf Tryz.f161) := drP_of (by kernel_rfl)
theorem nat_Cmp.call : callable Tryz.prog 161 = true := by kernel_rfl
theorem nat_Shl.ok : FnOK Tryz.prog 162 9 (bodyOf Tryz.f162) [.tmp 4] := ⟨mix, Tryz.f162, Tryz.func162, rfl, rfl, rfl⟩
theorem nat_Shl.dr : drP (bodyOf Tryz.f162) := drP_of (by kernel_rfl)
theorem nat_Shl.call : callable Tryz.prog 162 = true := by kernel_rfl
theorem whole_Sub.ok : FnOK Tryz.prog 163 13 (bodyOf Tryz.f163) [.cell 4 24] := ⟨mix, Tryz.f163, Tryz.func163, rfl, rfl, rfl⟩
theorem whole_Sub.dr : drP (bodyOf Tryz.f163) := drP_of (by kernel_rfl)
theorem whole_Sub.call : callable Tryz.prog 163 = true := by kernel_rfl
theorem math_bits_TrailingZeros32.ok : FnOK Tryz.prog 164 14 (bodyOf Tryz.f164) [.tmp 2] := ⟨mix, Tryz.f164, Tryz.func164, rfl, rfl, rfl⟩
theorem math_bits_TrailingZeros32.dr : drP (bodyOf Tryz.f164) := drP_of (by kernel_rfl)
theorem math_bits_TrailingZeros32.call : callable Tryz.prog 164 = true := by kernel_rfl
theorem nat_at.ok : FnOK Tryz.prog 165 18 (bodyOf Tryz.f165) [.tmp 4] := ⟨mix, Tryz.f165, Tryz.func165, rfl, rfl, rfl⟩
theorem nat_at.dr : drP (bodyOf Tryz.f165) := drP_of (by kernel_rfl)
theorem nat_at.call : callable Tryz.prog 165 = true := by kernel_rfl
theorem nat_Trim.ok : FnOK Tryz.prog 166 6 (bodyOf Tryz.f166) [.tmp 2] := ⟨mix, Tryz.f166, Tryz.func166, rfl, rfl, rfl⟩
theorem nat_Trim.dr : drP (bodyOf Tryz.f166) := drP_of (by kernel_rfl)
theorem nat_Trim.call : callable Tryz.prog 166 = true := by kernel_rfl
theorem annulusref1_Cmp.ok : FnOK Tryz.prog 167 47 (bodyOf Tryz.f167) [.tmp 4] := ⟨mix, Tryz.f167, Tryz.func167, rfl, rfl, rfl⟩
theorem annulusref1_Cmp.dr : drP (bodyOf Tryz.f167) := drP_of (by kernel_rfl)
theorem annulusref1_Cmp.call : callable Tryz.prog 167 = true := by kernel_rfl
theorem math_normalize.ok : FnOK Tryz.prog 183 10 (bodyOf Tryz.f183) [.tmp 2, .tmp 3] := ⟨mix, Tryz.f183, Tryz.func183, rfl, rfl, rfl⟩
theorem math_normalize.dr : drP (bodyOf Tryz.f183) := drP_of (by kernel_rfl)
theorem math_normalize.call : callable Tryz.prog 183 = true := by kernel_rfl
theorem nat_held.ok : FnOK Tryz.prog 185 6 (bodyOf Tryz.f185) [.tmp 2] := ⟨mix, Tryz.f185, Tryz.func185, rfl, rfl, rfl⟩
theorem nat_held.dr : drP (bodyOf Tryz.f185) := drP_of (by kernel_rfl)
theorem nat_held.call : callable Tryz.prog 185 = true := by kernel_rfl
theorem slices_Clone_uint32_uint32.ok : FnOK Tryz.prog 186 8 (bodyOf Tryz.f186) [.tmp 2] := ⟨mix, Tryz.f186, Tryz.func186, rfl, rfl, rfl⟩
theorem slices_Clone_uint32_uint32.dr : drP (bodyOf Tryz.f186) := drP_of (by kernel_rfl)
theorem slices_Clone_uint32_uint32.call : callable Tryz.prog 186 = true := by kernel_rfl
theorem ext_bits (b : Nat) : extF Tryz.prog 182 [.v (.float .f64 b)] = some (.int .u64 b) := by unfold extF; rw [Tryz.func182]; rfl
theorem ext_from (n : Int) : extF Tryz.prog 98 [.v (.int .u64 n)] = some (.float .f64 n.toNat) := by unfold extF; rw [Tryz.func98]; rfl
noncomputable def CT : Ctx := ⟨Tryz.prog, fun g => if g = 1 then some tab32 else none⟩
theorem CT_P : CT.P = Tryz.prog := rfl
theorem x_glob0 {l : List (Nat × AV)} : evalA CT.G l (.global 1) = .dp (tab32.map .v) 0 := rfl
attribute [go_sem] bodyOf aW1 x_skip x_label x_tree x_runN x_runT x_runC x_linsE x_getA0 x_getAs x_seq x_block x_exit x_goto x_ret x_then1 x_then2 x_then3 x_then4 x_blk1 x_blk2 x_blk3 x_blk4 x_region x_cond x_cond_dec x_cond_true x_cond_false x_CX x_RK x_GX x_GY x_nil x_plain x_guard x_guard_tt x_guard_ff x_guard_tf x_guard_ft x_guard_dt x_guard_un x_guard_df x_dst x_dst0 x_put x_put0 x_tmp x_const x_fnc x_look x_out1 x_out x_move x_assign x_pick x_pick_tt x_pick_ff x_pick_d x_alloc allocO x_box boxO cellsA x_build buildO fillA x_buildSlice buildSliceO x_load loadO x_loadF1 x_loadF0 x_store storeO x_nilCheck nilO x_binOp x_binOpI x_binOpB x_binOpF x_binOpX x_feql x_fneq x_flss x_fleq x_fgtr x_fgeq x_fmul x_fadd x_fsub x_fquo fltO x_ceql x_cplx cplxO x_real realO x_imag imagO x_eqNil eqNilK x_add x_sub x_mul x_quo x_rem x_and x_or x_xor x_andNot x_shl x_shr x_eql x_neq x_lss x_leq x_gtr x_geq x_eqb x_neb x_unOp x_not x_notb x_neg x_convert convO x_make makeO x_slice sliceO x_bound0 x_bound1 boundV x_fieldAddr faddrO x_indexAddr iaddrO x_extract extractO x_field fieldO x_len lenO x_max x_min x_maxO x_minO x_append x_call gslot initSlots Ret retF resF CT_P List.getElem?_toArray List.getElem?_cons_zero List.getElem?_cons_succ Option.bind_some List.map_cons List.map_nil List.length_cons List.length_nil true_and and_true forall_const hd List.getD_cons_zero List.getD_cons_succ List.set_cons_zero List.set_cons_succ List.nil_append List.cons_append U32 decide_true decide_false gt_iff_lt ge_iff_le Nat.zero_add Nat.add_zero Nat.mul_one Nat.sub_zero List.drop_zero Int.toNat_natCast Int.toNat_zero Nat.zero_mul appF newsF zeros_u32s dead Int.le_refl Nat.le_refl List.replicate_zero snap_sl snap_own snap_int snap_bool snap_nil snap_agg snap_tup snap1_sl snap1_own snap1_int snap1_bool snap1_nil ownOK own1 List.mem_cons List.not_mem_nil or_false forall_eq_or_imp forall_eq snap0_u32s List.length_map length_u32s not_true_eq_false not_false_eq_true false_implies implies_true ne_eq Int.natCast_zero fzH fzArgs fzCells fz leaf_u32s take_u32s drop_u32s append_u32s List.take_zero List.take_length isD_u32 IntKind.bits x_m32 Bool.not_false Bool.not_true x_draw isD_v isD_nil isD_tup x_m63 x_m1 x_m1' x_rep1 x_rep2 x_fill1 x_fill2 x_fill2' List.length_replicate Nat.lt_irrefl or_self false_or
attribute [go_sem] tk2 tk3 tk4 tk5 tk6 tk7 tk8 tk12 tk21 tk22 tk23 tk24 tk25 tk26 tk27 tk28 tk44 tk45 tk46 tk47 tk72 tk90 tk100 tk102 tk118 tk119 tk135 tk146 tk147 tk148 tk150 tk151 tk154 tk155 fd7_0 fd7_1 fd7_2 fd7_3 fd8_0 fd8_1 fd8_2 fd8_3 fd23_0 fd23_1 fd24_0 fd24_1 fd25_0 fd25_1 fd26_0 fd26_1 fd27_0 fd27_1 fd28_0 fd28_1 fd46_0 fd46_1 fd47_0 fd47_1 fd147_0 fd148_0
end Go.Ab

/- The facts of this seat's functions and types that the walks use: by program, out of the translation. -/
import Derived.Test.YtchgjgffikdcnaaA3
import Derived.Test.YtchgjgffikdcnaaProg
set_option linter.unusedVariables false
namespace Go.Ab
open Go.Proofs
theorem mix : Try.prog.follows .mixedOrders = true := by kernel_rfl
theorem tk2 : tk Try.prog 2 = some ⟨false, 1, 8, [.int .i64 0], .int .i64⟩ := by kernel_rfl
theorem tk3 : tk Try.prog 3 = some ⟨false, 1, 8, [.int .i64 0], .int .i64⟩ := by kernel_rfl
theorem tk4 : tk Try.prog 4 = some ⟨false, 1, 1, [.bool false], .bool⟩ := by kernel_rfl
theorem tk5 : tk Try.prog 5 = some ⟨false, 1, 1, [.int .u8 0], .int .u8⟩ := by kernel_rfl
theorem tk6 : tk Try.prog 6 = some ⟨false, 1, 1, [.int .u8 0], .int .u8⟩ := by kernel_rfl
theorem tk7 : tk Try.prog 7 = some ⟨true, 4, 24, [.int .i64 0, .int .i64 0, .bool false, .int .u8 0], .st [(0, 1), (1, 1), (2, 1), (3, 1)]⟩ := by kernel_rfl
theorem tk8 : tk Try.prog 8 = some ⟨true, 4, 24, [.int .i64 0, .int .i64 0, .bool false, .int .u8 0], .st [(0, 1), (1, 1), (2, 1), (3, 1)]⟩ := by kernel_rfl
theorem tk12 : tk Try.prog 12 = some ⟨false, 1, 8, [.int .u64 0], .int .u64⟩ := by kernel_rfl
theorem tk21 : tk Try.prog 21 = some ⟨false, 1, 4, [.int .i32 0], .int .i32⟩ := by kernel_rfl
theorem tk22 : tk Try.prog 22 = some ⟨false, 1, 24, [.slice none 0 0], .sl 45⟩ := by kernel_rfl
theorem tk23 : tk Try.prog 23 = some ⟨true, 2, 32, [.bool false, .slice none 0 0], .st [(0, 1), (1, 1)]⟩ := by kernel_rfl
theorem tk24 : tk Try.prog 24 = some ⟨true, 2, 32, [.bool false, .slice none 0 0], .st [(0, 1), (1, 1)]⟩ := by kernel_rfl
theorem tk41 : tk Try.prog 41 = some ⟨false, 1, 8, [.int .u64 0], .int .u64⟩ := by kernel_rfl
theorem tk44 : tk Try.prog 44 = some ⟨false, 1, 8, [.int .u64 0], .int .u64⟩ := by kernel_rfl
theorem tk45 : tk Try.prog 45 = some ⟨false, 1, 4, [.int .u32 0], .int .u32⟩ := by kernel_rfl
theorem tk54 : tk Try.prog 54 = some ⟨true, 4, 32, [.int .i64 0, .int .i64 0, .int .i64 0, .int .i64 0], .arr 4 3⟩ := by kernel_rfl
theorem tk69 : tk Try.prog 69 = some ⟨true, 0, 0, [], .arr 0 16⟩ := by kernel_rfl
theorem tk70 : tk Try.prog 70 = some ⟨true, 0, 0, [], .st [(0, 0)]⟩ := by kernel_rfl
theorem tk71 : tk Try.prog 71 = some ⟨true, 0, 0, [], .st [(0, 0)]⟩ := by kernel_rfl
theorem tk73 : tk Try.prog 73 = some ⟨false, 1, 1, [.int .u8 0], .int .u8⟩ := by kernel_rfl
theorem tk74 : tk Try.prog 74 = some ⟨false, 1, 1, [.int .u8 0], .int .u8⟩ := by kernel_rfl
theorem tk77 : tk Try.prog 77 = some ⟨false, 1, 4, [.int .i32 0], .int .i32⟩ := by kernel_rfl
theorem tk78 : tk Try.prog 78 = some ⟨false, 1, 4, [.int .i32 0], .int .i32⟩ := by kernel_rfl
theorem fd7_0 : fdOf Try.prog 7 0 = some (0, 2) := by kernel_rfl
theorem fd7_1 : fdOf Try.prog 7 1 = some (1, 3) := by kernel_rfl
theorem fd7_2 : fdOf Try.prog 7 2 = some (2, 4) := by kernel_rfl
theorem fd7_3 : fdOf Try.prog 7 3 = some (3, 6) := by kernel_rfl
theorem fd8_0 : fdOf Try.prog 8 0 = some (0, 2) := by kernel_rfl
theorem fd8_1 : fdOf Try.prog 8 1 = some (1, 3) := by kernel_rfl
theorem fd8_2 : fdOf Try.prog 8 2 = some (2, 4) := by kernel_rfl
theorem fd8_3 : fdOf Try.prog 8 3 = some (3, 6) := by kernel_rfl
theorem fd23_0 : fdOf Try.prog 23 0 = some (0, 4) := by kernel_rfl
theorem fd23_1 : fdOf Try.prog 23 1 = some (1, 22) := by kernel_rfl
theorem fd24_0 : fdOf Try.prog 24 0 = some (0, 4) := by kernel_rfl
theorem fd24_1 : fdOf Try.prog 24 1 = some (1, 22) := by kernel_rfl
theorem fd70_0 : fdOf Try.prog 70 0 = some (0, 69) := by kernel_rfl
theorem fd71_0 : fdOf Try.prog 71 0 = some (0, 69) := by kernel_rfl
theorem annuluslaw2_WholeShifts.ok : FnOK Try.prog 3 88 (bodyOf Try.f3) [.tmp 6] := ⟨mix, Try.f3, Try.func3, rfl, rfl, rfl⟩
theorem annuluslaw2_WholeShifts.dr : drP (bodyOf Try.f3) := drP_of (by kernel_rfl)
theorem annuluslaw2_WholeShifts.call : callable Try.prog 3 = true := by kernel_rfl
theorem annuluslaw2_WholeEnds.ok : FnOK Try.prog 4 78 (bodyOf Try.f4) [.tmp 2] := ⟨mix, Try.f4, Try.func4, rfl, rfl, rfl⟩
theorem annuluslaw2_WholeEnds.dr : drP (bodyOf Try.f4) := drP_of (by kernel_rfl)
theorem annuluslaw2_WholeEnds.call : callable Try.prog 4 = true := by kernel_rfl
theorem annuluslaw2_WholeRests.ok : FnOK Try.prog 5 98 (bodyOf Try.f5) [.tmp 6] := ⟨mix, Try.f5, Try.func5, rfl, rfl, rfl⟩
theorem annuluslaw2_WholeRests.dr : drP (bodyOf Try.f5) := drP_of (by kernel_rfl)
theorem annuluslaw2_WholeRests.call : callable Try.prog 5 = true := by kernel_rfl
theorem annuluslaw2_WholeSmalls.ok : FnOK Try.prog 6 124 (bodyOf Try.f6) [.tmp 6] := ⟨mix, Try.f6, Try.func6, rfl, rfl, rfl⟩
theorem annuluslaw2_WholeSmalls.dr : drP (bodyOf Try.f6) := drP_of (by kernel_rfl)
theorem annuluslaw2_WholeSmalls.call : callable Try.prog 6 = true := by kernel_rfl
theorem annuluslaw2_WholeNorms.ok : FnOK Try.prog 7 84 (bodyOf Try.f7) [.tmp 6] := ⟨mix, Try.f7, Try.func7, rfl, rfl, rfl⟩
theorem annuluslaw2_WholeNorms.dr : drPx 5 [[0, 2, 5, 6, 7, 1, 3, 4, 8, 9, 10, 11], [0, 2, 5, 6, 7, 1, 3, 4, 8, 10, 9, 11], [0, 2, 5, 6, 7, 1, 3, 4, 10, 8, 9, 11], [0, 2, 5, 6, 7, 1, 3, 10, 4, 8, 9, 11], [0, 2, 5, 6, 7, 1, 10, 3, 4, 8, 9, 11], [0, 2, 5, 6, 7, 3, 1, 4, 8, 9, 10, 11], [0, 2, 5, 6, 7, 3, 1, 4, 8, 10, 9, 11], [0, 2, 5, 6, 7, 3, 1, 4, 10, 8, 9, 11], [0, 2, 5, 6, 7, 3, 1, 10, 4, 8, 9, 11], [0, 2, 5, 6, 7, 3, 4, 1, 8, 9, 10, 11], [0, 2, 5, 6, 7, 3, 4, 1, 8, 10, 9, 11], [0, 2, 5, 6, 7, 3, 4, 1, 10, 8, 9, 11], [0, 2, 5, 6, 7, 3, 4, 8, 1, 9, 10, 11], [0, 2, 5, 6, 7, 3, 4, 8, 1, 10, 9, 11], [0, 2, 5, 6, 7, 3, 4, 8, 10, 1, 9, 11], [0, 2, 5, 6, 7, 3, 4, 10, 1, 8, 9, 11], [0, 2, 5, 6, 7, 3, 4, 10, 8, 1, 9, 11], [0, 2, 5, 6, 7, 3, 10, 1, 4, 8, 9, 11], [0, 2, 5, 6, 7, 3, 10, 4, 1, 8, 9, 11], [0, 2, 5, 6, 7, 3, 10, 4, 8, 1, 9, 11], [0, 2, 5, 6, 7, 10, 1, 3, 4, 8, 9, 11], [0, 2, 5, 6, 7, 10, 3, 1, 4, 8, 9, 11], [0, 2, 5, 6, 7, 10, 3, 4, 1, 8, 9, 11], [0, 2, 5, 6, 7, 10, 3, 4, 8, 1, 9, 11]] (bodyOf Try.f7) := drPx_of (by kernel_rfl)
theorem annuluslaw2_WholeNorms.call : callable Try.prog 7 = true := by kernel_rfl
theorem annuluslaw2_WholeTells.ok : FnOK Try.prog 8 112 (bodyOf Try.f8) [.tmp 4] := ⟨mix, Try.f8, Try.func8, rfl, rfl, rfl⟩
theorem annuluslaw2_WholeTells.dr : drP (bodyOf Try.f8) := drP_of (by kernel_rfl)
theorem annuluslaw2_WholeTells.call : callable Try.prog 8 = true := by kernel_rfl
theorem annuluslaw2_WholeLaws.ok : FnOK Try.prog 9 102 (bodyOf Try.f9) [.tmp 6] := ⟨mix, Try.f9, Try.func9, rfl, rfl, rfl⟩
theorem annuluslaw2_WholeLaws.dr : drP (bodyOf Try.f9) := drP_of (by kernel_rfl)
theorem annuluslaw2_WholeLaws.call : callable Try.prog 9 = true := by kernel_rfl
theorem annuluslaw2_known.ok : FnOK Try.prog 10 90 (bodyOf Try.f10) [.tmp 0] := ⟨mix, Try.f10, Try.func10, rfl, rfl, rfl⟩
theorem annuluslaw2_known.dr : drP (bodyOf Try.f10) := drP_of (by kernel_rfl)
theorem annuluslaw2_known.call : callable Try.prog 10 = true := by kernel_rfl
theorem annuluslaw2_few.ok : FnOK Try.prog 11 7 (bodyOf Try.f11) [.tmp 2] := ⟨mix, Try.f11, Try.func11, rfl, rfl, rfl⟩
theorem annuluslaw2_few.dr : drP (bodyOf Try.f11) := drP_of (by kernel_rfl)
theorem annuluslaw2_few.call : callable Try.prog 11 = true := by kernel_rfl
theorem whole_Small.ok : FnOK Try.prog 12 49 (bodyOf Try.f12) [.tmp 2, .tmp 3] := ⟨mix, Try.f12, Try.func12, rfl, rfl, rfl⟩
theorem whole_Small.dr : drP (bodyOf Try.f12) := drP_of (by kernel_rfl)
theorem whole_Small.call : callable Try.prog 12 = true := by kernel_rfl
theorem annulusref1_Small.ok : FnOK Try.prog 13 46 (bodyOf Try.f13) [.tmp 2, .tmp 3] := ⟨mix, Try.f13, Try.func13, rfl, rfl, rfl⟩
theorem annulusref1_Small.dr : drP (bodyOf Try.f13) := drP_of (by kernel_rfl)
theorem annulusref1_Small.call : callable Try.prog 13 = true := by kernel_rfl
theorem annulusref1_SameInt.ok : FnOK Try.prog 14 17 (bodyOf Try.f14) [.tmp 4] := ⟨mix, Try.f14, Try.func14, rfl, rfl, rfl⟩
theorem annulusref1_SameInt.dr : drP (bodyOf Try.f14) := drP_of (by kernel_rfl)
theorem annulusref1_SameInt.call : callable Try.prog 14 = true := by kernel_rfl
theorem whole_Shr.ok : FnOK Try.prog 15 30 (bodyOf Try.f15) [.cell 4 24] := ⟨mix, Try.f15, Try.func15, rfl, rfl, rfl⟩
theorem whole_Shr.dr : drP (bodyOf Try.f15) := drP_of (by kernel_rfl)
theorem whole_Shr.call : callable Try.prog 15 = true := by kernel_rfl
theorem annulusref1_ShrInt.ok : FnOK Try.prog 16 19 (bodyOf Try.f16) [.cell 4 24] := ⟨mix, Try.f16, Try.func16, rfl, rfl, rfl⟩
theorem annulusref1_ShrInt.dr : drP (bodyOf Try.f16) := drP_of (by kernel_rfl)
theorem annulusref1_ShrInt.call : callable Try.prog 16 = true := by kernel_rfl
theorem whole_Of.ok : FnOK Try.prog 17 19 (bodyOf Try.f17) [.cell 2 24] := ⟨mix, Try.f17, Try.func17, rfl, rfl, rfl⟩
theorem whole_Of.dr : drP (bodyOf Try.f17) := drP_of (by kernel_rfl)
theorem whole_Of.call : callable Try.prog 17 = true := by kernel_rfl
theorem whole_Shl.ok : FnOK Try.prog 18 12 (bodyOf Try.f18) [.cell 4 24] := ⟨mix, Try.f18, Try.func18, rfl, rfl, rfl⟩
theorem whole_Shl.dr : drP (bodyOf Try.f18) := drP_of (by kernel_rfl)
theorem whole_Shl.call : callable Try.prog 18 = true := by kernel_rfl
theorem annulusref1_ShlInt.ok : FnOK Try.prog 19 14 (bodyOf Try.f19) [.cell 4 24] := ⟨mix, Try.f19, Try.func19, rfl, rfl, rfl⟩
theorem annulusref1_ShlInt.dr : drP (bodyOf Try.f19) := drP_of (by kernel_rfl)
theorem annulusref1_ShlInt.call : callable Try.prog 19 = true := by kernel_rfl
theorem annulusref1_Of.ok : FnOK Try.prog 20 20 (bodyOf Try.f20) [.cell 2 24] := ⟨mix, Try.f20, Try.func20, rfl, rfl, rfl⟩
theorem annulusref1_Of.dr : drP (bodyOf Try.f20) := drP_of (by kernel_rfl)
theorem annulusref1_Of.call : callable Try.prog 20 = true := by kernel_rfl
theorem whole_Sub.ok : FnOK Try.prog 21 13 (bodyOf Try.f21) [.cell 4 24] := ⟨mix, Try.f21, Try.func21, rfl, rfl, rfl⟩
theorem whole_Sub.dr : drP (bodyOf Try.f21) := drP_of (by kernel_rfl)
theorem whole_Sub.call : callable Try.prog 21 = true := by kernel_rfl
theorem whole_Neg.ok : FnOK Try.prog 22 9 (bodyOf Try.f22) [.cell 2 24] := ⟨mix, Try.f22, Try.func22, rfl, rfl, rfl⟩
theorem whole_Neg.dr : drP (bodyOf Try.f22) := drP_of (by kernel_rfl)
theorem whole_Neg.call : callable Try.prog 22 = true := by kernel_rfl
theorem whole_Div.ok : FnOK Try.prog 23 54 (bodyOf Try.f23) [.cell 4 24, .cell 5 24, .tmp 6] := ⟨mix, Try.f23, Try.func23, rfl, rfl, rfl⟩
theorem whole_Div.dr : drPx 8 [[0, 1, 2, 3, 4], [0, 2, 1, 3, 4], [1, 0, 2, 3, 4]] (bodyOf Try.f23) := drPx_of (by kernel_rfl)
theorem whole_Div.call : callable Try.prog 23 = true := by kernel_rfl
theorem whole_Sign.ok : FnOK Try.prog 24 19 (bodyOf Try.f24) [.tmp 2] := ⟨mix, Try.f24, Try.func24, rfl, rfl, rfl⟩
theorem whole_Sign.dr : drP (bodyOf Try.f24) := drP_of (by kernel_rfl)
theorem whole_Sign.call : callable Try.prog 24 = true := by kernel_rfl
theorem whole_Norm.ok : FnOK Try.prog 25 8 (bodyOf Try.f25) [.cell 2 24] := ⟨mix, Try.f25, Try.func25, rfl, rfl, rfl⟩
theorem whole_Norm.dr : drP (bodyOf Try.f25) := drP_of (by kernel_rfl)
theorem whole_Norm.call : callable Try.prog 25 = true := by kernel_rfl
theorem whole_Add.ok : FnOK Try.prog 26 47 (bodyOf Try.f26) [.cell 4 24] := ⟨mix, Try.f26, Try.func26, rfl, rfl, rfl⟩
theorem whole_Add.dr : drP (bodyOf Try.f26) := drP_of (by kernel_rfl)
theorem whole_Add.call : callable Try.prog 26 = true := by kernel_rfl
theorem whole_Mul.ok : FnOK Try.prog 27 16 (bodyOf Try.f27) [.cell 4 24] := ⟨mix, Try.f27, Try.func27, rfl, rfl, rfl⟩
theorem whole_Mul.dr : drP (bodyOf Try.f27) := drP_of (by kernel_rfl)
theorem whole_Mul.call : callable Try.prog 27 = true := by kernel_rfl
theorem whole_Cmp.ok : FnOK Try.prog 28 9 (bodyOf Try.f28) [.tmp 4] := ⟨mix, Try.f28, Try.func28, rfl, rfl, rfl⟩
theorem whole_Cmp.dr : drP (bodyOf Try.f28) := drP_of (by kernel_rfl)
theorem whole_Cmp.call : callable Try.prog 28 = true := by kernel_rfl
theorem whole_Is.ok : FnOK Try.prog 29 17 (bodyOf Try.f29) [.tmp 2] := ⟨mix, Try.f29, Try.func29, rfl, rfl, rfl⟩
theorem whole_Is.dr : drP (bodyOf Try.f29) := drP_of (by kernel_rfl)
theorem whole_Is.call : callable Try.prog 29 = true := by kernel_rfl
theorem annulusref1_DivInt.ok : FnOK Try.prog 30 62 (bodyOf Try.f30) [.cell 4 24, .cell 5 24, .tmp 6] := ⟨mix, Try.f30, Try.func30, rfl, rfl, rfl⟩
theorem annulusref1_DivInt.dr : drP (bodyOf Try.f30) := drP_of (by kernel_rfl)
theorem annulusref1_DivInt.call : callable Try.prog 30 = true := by kernel_rfl
theorem annulusref1_IsInt.ok : FnOK Try.prog 31 22 (bodyOf Try.f31) [.tmp 2] := ⟨mix, Try.f31, Try.func31, rfl, rfl, rfl⟩
theorem annulusref1_IsInt.dr : drP (bodyOf Try.f31) := drP_of (by kernel_rfl)
theorem annulusref1_IsInt.call : callable Try.prog 31 = true := by kernel_rfl
theorem annulusref1_Norm.ok : FnOK Try.prog 32 16 (bodyOf Try.f32) [.cell 2 24] := ⟨mix, Try.f32, Try.func32, rfl, rfl, rfl⟩
theorem annulusref1_Norm.dr : drP (bodyOf Try.f32) := drP_of (by kernel_rfl)
theorem annulusref1_Norm.call : callable Try.prog 32 = true := by kernel_rfl
theorem annulusref1_Sign.ok : FnOK Try.prog 33 14 (bodyOf Try.f33) [.tmp 2] := ⟨mix, Try.f33, Try.func33, rfl, rfl, rfl⟩
theorem annulusref1_Sign.dr : drP (bodyOf Try.f33) := drP_of (by kernel_rfl)
theorem annulusref1_Sign.call : callable Try.prog 33 = true := by kernel_rfl
theorem annulusref1_CmpInt.ok : FnOK Try.prog 34 9 (bodyOf Try.f34) [.tmp 4] := ⟨mix, Try.f34, Try.func34, rfl, rfl, rfl⟩
theorem annulusref1_CmpInt.dr : drP (bodyOf Try.f34) := drP_of (by kernel_rfl)
theorem annulusref1_CmpInt.call : callable Try.prog 34 = true := by kernel_rfl
theorem annulusref1_AddInt.ok : FnOK Try.prog 35 54 (bodyOf Try.f35) [.cell 4 24] := ⟨mix, Try.f35, Try.func35, rfl, rfl, rfl⟩
theorem annulusref1_AddInt.dr : drP (bodyOf Try.f35) := drP_of (by kernel_rfl)
theorem annulusref1_AddInt.call : callable Try.prog 35 = true := by kernel_rfl
theorem annulusref1_SubInt.ok : FnOK Try.prog 36 9 (bodyOf Try.f36) [.cell 4 24] := ⟨mix, Try.f36, Try.func36, rfl, rfl, rfl⟩
theorem annulusref1_SubInt.dr : drP (bodyOf Try.f36) := drP_of (by kernel_rfl)
theorem annulusref1_SubInt.call : callable Try.prog 36 = true := by kernel_rfl
theorem annulusref1_MulInt.ok : FnOK Try.prog 37 23 (bodyOf Try.f37) [.cell 4 24] := ⟨mix, Try.f37, Try.func37, rfl, rfl, rfl⟩
theorem annulusref1_MulInt.dr : drP (bodyOf Try.f37) := drP_of (by kernel_rfl)
theorem annulusref1_MulInt.call : callable Try.prog 37 = true := by kernel_rfl
theorem annulusref1_Neg.ok : FnOK Try.prog 38 10 (bodyOf Try.f38) [.cell 2 24] := ⟨mix, Try.f38, Try.func38, rfl, rfl, rfl⟩
theorem annulusref1_Neg.dr : drP (bodyOf Try.f38) := drP_of (by kernel_rfl)
theorem annulusref1_Neg.call : callable Try.prog 38 = true := by kernel_rfl
theorem annulusref1_at.ok : FnOK Try.prog 39 14 (bodyOf Try.f39) [.tmp 4] := ⟨mix, Try.f39, Try.func39, rfl, rfl, rfl⟩
theorem annulusref1_at.dr : drP (bodyOf Try.f39) := drP_of (by kernel_rfl)
theorem annulusref1_at.call : callable Try.prog 39 = true := by kernel_rfl
theorem annulusref1_Same.ok : FnOK Try.prog 40 26 (bodyOf Try.f40) [.tmp 4] := ⟨mix, Try.f40, Try.func40, rfl, rfl, rfl⟩
theorem annulusref1_Same.dr : drP (bodyOf Try.f40) := drP_of (by kernel_rfl)
theorem annulusref1_Same.call : callable Try.prog 40 = true := by kernel_rfl
theorem whole_with.ok : FnOK Try.prog 41 15 (bodyOf Try.f41) [.cell 4 24] := ⟨mix, Try.f41, Try.func41, rfl, rfl, rfl⟩
theorem whole_with.dr : drP (bodyOf Try.f41) := drP_of (by kernel_rfl)
theorem whole_with.call : callable Try.prog 41 = true := by kernel_rfl
theorem nat_Shr.ok : FnOK Try.prog 42 9 (bodyOf Try.f42) [.tmp 4] := ⟨mix, Try.f42, Try.func42, rfl, rfl, rfl⟩
theorem nat_Shr.dr : drP (bodyOf Try.f42) := drP_of (by kernel_rfl)
theorem nat_Shr.call : callable Try.prog 42 = true := by kernel_rfl
theorem nat_Cmp.ok : FnOK Try.prog 43 47 (bodyOf Try.f43) [.tmp 4] := ⟨mix, Try.f43, Try.func43, rfl, rfl, rfl⟩
theorem nat_Cmp.dr : drP (bodyOf Try.f43) := drP_of (by kernel_rfl)
theorem nat_Cmp.call : callable Try.prog 43 = true := by kernel_rfl
theorem nat_Shl.ok : FnOK Try.prog 44 9 (bodyOf Try.f44) [.tmp 4] := ⟨mix, Try.f44, Try.func44, rfl, rfl, rfl⟩
theorem nat_Shl.dr : drP (bodyOf Try.f44) := drP_of (by kernel_rfl)
theorem nat_Shl.call : callable Try.prog 44 = true := by kernel_rfl
theorem annulusref1_Shl.ok : FnOK Try.prog 45 62 (bodyOf Try.f45) [.tmp 4] := ⟨mix, Try.f45, Try.func45, rfl, rfl, rfl⟩
theorem annulusref1_Shl.dr : drP (bodyOf Try.f45) := drP_of (by kernel_rfl)
theorem annulusref1_Shl.call : callable Try.prog 45 = true := by kernel_rfl
theorem annulusref1_Trim.ok : FnOK Try.prog 46 21 (bodyOf Try.f46) [.tmp 2] := ⟨mix, Try.f46, Try.func46, rfl, rfl, rfl⟩
theorem annulusref1_Trim.dr : drP (bodyOf Try.f46) := drP_of (by kernel_rfl)
theorem annulusref1_Trim.call : callable Try.prog 46 = true := by kernel_rfl
theorem nat_Div.ok : FnOK Try.prog 47 94 (bodyOf Try.f47) [.tmp 4, .tmp 5, .tmp 6] := ⟨mix, Try.f47, Try.func47, rfl, rfl, rfl⟩
theorem nat_Div.dr : drP (bodyOf Try.f47) := drP_of (by kernel_rfl)
theorem nat_Div.call : callable Try.prog 47 = true := by kernel_rfl
theorem nat_Add.ok : FnOK Try.prog 48 39 (bodyOf Try.f48) [.tmp 4] := ⟨mix, Try.f48, Try.func48, rfl, rfl, rfl⟩
theorem nat_Add.dr : drP (bodyOf Try.f48) := drP_of (by kernel_rfl)
theorem nat_Add.call : callable Try.prog 48 = true := by kernel_rfl
theorem nat_Sub.ok : FnOK Try.prog 49 42 (bodyOf Try.f49) [.tmp 4, .tmp 5] := ⟨mix, Try.f49, Try.func49, rfl, rfl, rfl⟩
theorem nat_Sub.dr : drP (bodyOf Try.f49) := drP_of (by kernel_rfl)
theorem nat_Sub.call : callable Try.prog 49 = true := by kernel_rfl
theorem nat_Mul.ok : FnOK Try.prog 50 71 (bodyOf Try.f50) [.tmp 4] := ⟨mix, Try.f50, Try.func50, rfl, rfl, rfl⟩
theorem nat_Mul.dr : drP (bodyOf Try.f50) := drP_of (by kernel_rfl)
theorem nat_Mul.call : callable Try.prog 50 = true := by kernel_rfl
theorem nat_Is.ok : FnOK Try.prog 51 15 (bodyOf Try.f51) [.tmp 2] := ⟨mix, Try.f51, Try.func51, rfl, rfl, rfl⟩
theorem nat_Is.dr : drP (bodyOf Try.f51) := drP_of (by kernel_rfl)
theorem nat_Is.call : callable Try.prog 51 = true := by kernel_rfl
theorem annulusref1_Div.ok : FnOK Try.prog 52 64 (bodyOf Try.f52) [.tmp 4, .tmp 5, .tmp 6] := ⟨mix, Try.f52, Try.func52, rfl, rfl, rfl⟩
theorem annulusref1_Div.dr : drP (bodyOf Try.f52) := drP_of (by kernel_rfl)
theorem annulusref1_Div.call : callable Try.prog 52 = true := by kernel_rfl
theorem annulusref1_Add.ok : FnOK Try.prog 53 40 (bodyOf Try.f53) [.tmp 4] := ⟨mix, Try.f53, Try.func53, rfl, rfl, rfl⟩
theorem annulusref1_Add.dr : drP (bodyOf Try.f53) := drP_of (by kernel_rfl)
theorem annulusref1_Add.call : callable Try.prog 53 = true := by kernel_rfl
theorem annulusref1_Sub.ok : FnOK Try.prog 54 41 (bodyOf Try.f54) [.tmp 4, .tmp 5] := ⟨mix, Try.f54, Try.func54, rfl, rfl, rfl⟩
theorem annulusref1_Sub.dr : drP (bodyOf Try.f54) := drP_of (by kernel_rfl)
theorem annulusref1_Sub.call : callable Try.prog 54 = true := by kernel_rfl
theorem annulusref1_Mul.ok : FnOK Try.prog 55 68 (bodyOf Try.f55) [.tmp 4] := ⟨mix, Try.f55, Try.func55, rfl, rfl, rfl⟩
theorem annulusref1_Mul.dr : drP (bodyOf Try.f55) := drP_of (by kernel_rfl)
theorem annulusref1_Mul.call : callable Try.prog 55 = true := by kernel_rfl
theorem nat_Trim.ok : FnOK Try.prog 56 6 (bodyOf Try.f56) [.tmp 2] := ⟨mix, Try.f56, Try.func56, rfl, rfl, rfl⟩
theorem nat_Trim.dr : drP (bodyOf Try.f56) := drP_of (by kernel_rfl)
theorem nat_Trim.call : callable Try.prog 56 = true := by kernel_rfl
theorem nat_Downwards.ok : FnOK Try.prog 57 53 (bodyOf Try.f57) [.tmp 4] := ⟨mix, Try.f57, Try.func57, rfl, rfl, rfl⟩
theorem nat_Downwards.dr : drP (bodyOf Try.f57) := drP_of (by kernel_rfl)
theorem nat_Downwards.call : callable Try.prog 57 = true := by kernel_rfl
theorem nat_held.ok : FnOK Try.prog 58 6 (bodyOf Try.f58) [.tmp 2] := ⟨mix, Try.f58, Try.func58, rfl, rfl, rfl⟩
theorem nat_held.dr : drP (bodyOf Try.f58) := drP_of (by kernel_rfl)
theorem nat_held.call : callable Try.prog 58 = true := by kernel_rfl
theorem nat_cut.ok : FnOK Try.prog 59 21 (bodyOf Try.f59) [.tmp 2] := ⟨mix, Try.f59, Try.func59, rfl, rfl, rfl⟩
theorem nat_cut.dr : drP (bodyOf Try.f59) := drP_of (by kernel_rfl)
theorem nat_cut.call : callable Try.prog 59 = true := by kernel_rfl
theorem nat_Up.ok : FnOK Try.prog 60 55 (bodyOf Try.f60) [.tmp 4] := ⟨mix, Try.f60, Try.func60, rfl, rfl, rfl⟩
theorem nat_Up.dr : drP (bodyOf Try.f60) := drP_of (by kernel_rfl)
theorem nat_Up.call : callable Try.prog 60 = true := by kernel_rfl
theorem slices_Clone_uint32_uint32.ok : FnOK Try.prog 61 8 (bodyOf Try.f61) [.tmp 2] := ⟨mix, Try.f61, Try.func61, rfl, rfl, rfl⟩
theorem slices_Clone_uint32_uint32.dr : drP (bodyOf Try.f61) := drP_of (by kernel_rfl)
theorem slices_Clone_uint32_uint32.call : callable Try.prog 61 = true := by kernel_rfl
theorem nat_short.ok : FnOK Try.prog 62 45 (bodyOf Try.f62) [.tmp 4, .tmp 5] := ⟨mix, Try.f62, Try.func62, rfl, rfl, rfl⟩
theorem nat_short.dr : drP (bodyOf Try.f62) := drP_of (by kernel_rfl)
theorem nat_short.call : callable Try.prog 62 = true := by kernel_rfl
theorem math_bits_LeadingZeros32.ok : FnOK Try.prog 63 6 (bodyOf Try.f63) [.tmp 2] := ⟨mix, Try.f63, Try.func63, rfl, rfl, rfl⟩
theorem math_bits_LeadingZeros32.dr : drP (bodyOf Try.f63) := drP_of (by kernel_rfl)
theorem math_bits_LeadingZeros32.call : callable Try.prog 63 = true := by kernel_rfl
theorem nat_step.ok : FnOK Try.prog 64 164 (bodyOf Try.f64) [.tmp 4] := ⟨mix, Try.f64, Try.func64, rfl, rfl, rfl⟩
theorem nat_step.dr : drP (bodyOf Try.f64) := drP_of (by kernel_rfl)
theorem nat_step.call : callable Try.prog 64 = true := by kernel_rfl
theorem nat_at.ok : FnOK Try.prog 65 18 (bodyOf Try.f65) [.tmp 4] := ⟨mix, Try.f65, Try.func65, rfl, rfl, rfl⟩
theorem nat_at.dr : drP (bodyOf Try.f65) := drP_of (by kernel_rfl)
theorem nat_at.call : callable Try.prog 65 = true := by kernel_rfl
theorem annulusref1_Bits.ok : FnOK Try.prog 66 28 (bodyOf Try.f66) [.tmp 2] := ⟨mix, Try.f66, Try.func66, rfl, rfl, rfl⟩
theorem annulusref1_Bits.dr : drP (bodyOf Try.f66) := drP_of (by kernel_rfl)
theorem annulusref1_Bits.call : callable Try.prog 66 = true := by kernel_rfl
theorem annulusref1_Bit.ok : FnOK Try.prog 67 27 (bodyOf Try.f67) [.tmp 4] := ⟨mix, Try.f67, Try.func67, rfl, rfl, rfl⟩
theorem annulusref1_Bit.dr : drP (bodyOf Try.f67) := drP_of (by kernel_rfl)
theorem annulusref1_Bit.call : callable Try.prog 67 = true := by kernel_rfl
theorem annulusref1_Cmp.ok : FnOK Try.prog 68 47 (bodyOf Try.f68) [.tmp 4] := ⟨mix, Try.f68, Try.func68, rfl, rfl, rfl⟩
theorem annulusref1_Cmp.dr : drP (bodyOf Try.f68) := drP_of (by kernel_rfl)
theorem annulusref1_Cmp.call : callable Try.prog 68 = true := by kernel_rfl
theorem math_bits_Len32.ok : FnOK Try.prog 69 19 (bodyOf Try.f69) [.tmp 2] := ⟨mix, Try.f69, Try.func69, rfl, rfl, rfl⟩
theorem math_bits_Len32.dr : drP (bodyOf Try.f69) := drP_of (by kernel_rfl)
theorem math_bits_Len32.call : callable Try.prog 69 = true := by kernel_rfl
noncomputable def CT : Ctx := ⟨Try.prog, fun g => none⟩
theorem CT_P : CT.P = Try.prog := rfl
attribute [go_sem] bodyOf aW1 x_skip x_label x_lins x_linsE x_getA0 x_getAs x_seq x_block x_exit x_goto x_ret x_then1 x_then2 x_then3 x_then4 x_blk1 x_blk2 x_blk3 x_blk4 x_region x_cond x_cond_dec x_cond_true x_cond_false x_CX x_RK x_GX x_GY x_nil x_plain x_guard x_guard_tt x_guard_ff x_guard_tf x_guard_ft x_guard_dt x_guard_un x_guard_df x_dst x_dst0 x_put x_put0 x_tmp x_const x_fnc x_look x_out1 x_out x_move x_assign x_pick x_pick_tt x_pick_ff x_pick_d x_alloc allocO x_box boxO cellsA x_build buildO fillA x_buildSlice buildSliceO x_load loadO x_loadF1 x_loadF0 x_store storeO x_nilCheck nilO x_binOp x_binOpI x_binOpB x_eqNil eqNilK x_add x_sub x_mul x_quo x_rem x_and x_or x_xor x_andNot x_shl x_shr x_eql x_neq x_lss x_leq x_gtr x_geq x_eqb x_neb x_unOp x_not x_notb x_neg x_convert convO x_make makeO x_slice sliceO x_bound0 x_bound1 boundV x_fieldAddr faddrO x_indexAddr iaddrO x_extract extractO x_field fieldO x_len lenO x_max x_min x_maxO x_minO x_append x_call gslot initSlots Ret retF resF CT_P List.getElem?_toArray List.getElem?_cons_zero List.getElem?_cons_succ Option.bind_some List.map_cons List.map_nil List.length_cons List.length_nil true_and and_true forall_const hd List.getD_cons_zero List.getD_cons_succ List.set_cons_zero List.set_cons_succ List.nil_append List.cons_append U32 decide_true decide_false gt_iff_lt ge_iff_le Nat.zero_add Nat.add_zero Nat.mul_one Nat.sub_zero List.drop_zero Int.toNat_natCast Int.toNat_zero Nat.zero_mul appF newsF zeros_u32s dead Int.le_refl Nat.le_refl List.replicate_zero snap_sl snap_own snap_int snap_bool snap_nil snap_agg snap_tup snap1_sl snap1_own snap1_int snap1_bool snap1_nil ownOK own1 List.mem_cons List.not_mem_nil or_false forall_eq_or_imp forall_eq snap0_u32s List.length_map length_u32s not_true_eq_false not_false_eq_true false_implies implies_true ne_eq Int.natCast_zero fzH fzArgs fzCells fz leaf_u32s take_u32s drop_u32s append_u32s List.take_zero List.take_length isD_u32 IntKind.bits x_m32 Bool.not_false Bool.not_true x_draw isD_v isD_nil isD_tup x_m63 x_m1 x_m1' x_rep1 x_rep2 x_fill1 x_fill2 x_fill2' List.length_replicate Nat.lt_irrefl or_self false_or
attribute [go_sem] tk2 tk3 tk4 tk5 tk6 tk7 tk8 tk12 tk21 tk22 tk23 tk24 tk41 tk44 tk45 tk54 tk69 tk70 tk71 tk73 tk74 tk77 tk78 fd7_0 fd7_1 fd7_2 fd7_3 fd8_0 fd8_1 fd8_2 fd8_3 fd23_0 fd23_1 fd24_0 fd24_1 fd70_0 fd71_0
end Go.Ab

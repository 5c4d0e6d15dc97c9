/- The facts of this seat's functions and types that the walks use: by program, out of the translation. -/
import Derived.Test.YtcnhnabmkfagbaaGreatDoorA3
import Derived.Test.YtcnhnabmkfagbaaGreatDoorProg
set_option linter.unusedVariables false
namespace Go.Ab
open Go.Proofs
theorem mix : Tryz.prog.follows .mixedOrders = true := by kernel_rfl
theorem tk2 : tk Tryz.prog 2 = some ⟨false, 1, 8, [.int .i64 0], .int .i64⟩ := by kernel_rfl
theorem tk3 : tk Tryz.prog 3 = some ⟨false, 1, 8, [.int .i64 0], .int .i64⟩ := by kernel_rfl
theorem tk4 : tk Tryz.prog 4 = some ⟨false, 1, 1, [.bool false], .bool⟩ := by kernel_rfl
theorem tk5 : tk Tryz.prog 5 = some ⟨false, 1, 1, [.int .u8 0], .int .u8⟩ := by kernel_rfl
theorem tk6 : tk Tryz.prog 6 = some ⟨false, 1, 1, [.int .u8 0], .int .u8⟩ := by kernel_rfl
theorem tk7 : tk Tryz.prog 7 = some ⟨true, 4, 24, [.int .i64 0, .int .i64 0, .bool false, .int .u8 0], .st [(0, 1), (1, 1), (2, 1), (3, 1)]⟩ := by kernel_rfl
theorem tk8 : tk Tryz.prog 8 = some ⟨true, 4, 24, [.int .i64 0, .int .i64 0, .bool false, .int .u8 0], .st [(0, 1), (1, 1), (2, 1), (3, 1)]⟩ := by kernel_rfl
theorem tk12 : tk Tryz.prog 12 = some ⟨false, 1, 8, [.int .u64 0], .int .u64⟩ := by kernel_rfl
theorem tk21 : tk Tryz.prog 21 = some ⟨false, 1, 4, [.int .i32 0], .int .i32⟩ := by kernel_rfl
theorem tk22 : tk Tryz.prog 22 = some ⟨false, 1, 24, [.slice none 0 0], .sl 29⟩ := by kernel_rfl
theorem tk23 : tk Tryz.prog 23 = some ⟨false, 1, 24, [.slice none 0 0], .sl 85⟩ := by kernel_rfl
theorem tk24 : tk Tryz.prog 24 = some ⟨true, 2, 32, [.bool false, .slice none 0 0], .st [(0, 1), (1, 1)]⟩ := by kernel_rfl
theorem tk25 : tk Tryz.prog 25 = some ⟨true, 2, 32, [.bool false, .slice none 0 0], .st [(0, 1), (1, 1)]⟩ := by kernel_rfl
theorem tk26 : tk Tryz.prog 26 = some ⟨true, 3, 40, [.bool false, .slice none 0 0, .int .i64 0], .st [(0, 2), (2, 1)]⟩ := by kernel_rfl
theorem tk27 : tk Tryz.prog 27 = some ⟨true, 3, 40, [.bool false, .slice none 0 0, .int .i64 0], .st [(0, 2), (2, 1)]⟩ := by kernel_rfl
theorem tk28 : tk Tryz.prog 28 = some ⟨true, 6, 80, [.bool false, .slice none 0 0, .int .i64 0, .bool false, .slice none 0 0, .int .i64 0], .st [(0, 3), (3, 3)]⟩ := by kernel_rfl
theorem tk29 : tk Tryz.prog 29 = some ⟨true, 6, 80, [.bool false, .slice none 0 0, .int .i64 0, .bool false, .slice none 0 0, .int .i64 0], .st [(0, 3), (3, 3)]⟩ := by kernel_rfl
theorem tk30 : tk Tryz.prog 30 = some ⟨true, 9, 120, [.bool false, .slice none 0 0, .int .i64 0, .bool false, .slice none 0 0, .int .i64 0, .bool false, .slice none 0 0, .int .i64 0], .st [(0, 6), (6, 3)]⟩ := by kernel_rfl
theorem tk31 : tk Tryz.prog 31 = some ⟨true, 9, 120, [.bool false, .slice none 0 0, .int .i64 0, .bool false, .slice none 0 0, .int .i64 0, .bool false, .slice none 0 0, .int .i64 0], .st [(0, 6), (6, 3)]⟩ := by kernel_rfl
theorem tk47 : tk Tryz.prog 47 = some ⟨false, 1, 24, [.slice none 0 0], .sl 5⟩ := by kernel_rfl
theorem tk48 : tk Tryz.prog 48 = some ⟨false, 1, 1, [.int .i8 0], .int .i8⟩ := by kernel_rfl
theorem tk84 : tk Tryz.prog 84 = some ⟨false, 1, 8, [.int .u64 0], .int .u64⟩ := by kernel_rfl
theorem tk85 : tk Tryz.prog 85 = some ⟨false, 1, 4, [.int .u32 0], .int .u32⟩ := by kernel_rfl
theorem tk86 : tk Tryz.prog 86 = some ⟨false, 1, 8, [.int .u64 0], .int .u64⟩ := by kernel_rfl
theorem tk89 : tk Tryz.prog 89 = some ⟨true, 4, 32, [.int .i64 0, .int .i64 0, .int .i64 0, .int .i64 0], .arr 4 3⟩ := by kernel_rfl
theorem tk90 : tk Tryz.prog 90 = some ⟨false, 1, 8, [.int .i64 0], .int .i64⟩ := by kernel_rfl
theorem tk93 : tk Tryz.prog 93 = some ⟨true, 2, 48, [.slice none 0 0, .slice none 0 0], .arr 2 22⟩ := by kernel_rfl
theorem tk115 : tk Tryz.prog 115 = some ⟨true, 32, 32, [.int .u8 0, .int .u8 0, .int .u8 0, .int .u8 0, .int .u8 0, .int .u8 0, .int .u8 0, .int .u8 0, .int .u8 0, .int .u8 0, .int .u8 0, .int .u8 0, .int .u8 0, .int .u8 0, .int .u8 0, .int .u8 0, .int .u8 0, .int .u8 0, .int .u8 0, .int .u8 0, .int .u8 0, .int .u8 0, .int .u8 0, .int .u8 0, .int .u8 0, .int .u8 0, .int .u8 0, .int .u8 0, .int .u8 0, .int .u8 0, .int .u8 0, .int .u8 0], .arr 32 5⟩ := by kernel_rfl
theorem tk124 : tk Tryz.prog 124 = some ⟨true, 0, 0, [], .arr 0 16⟩ := by kernel_rfl
theorem tk125 : tk Tryz.prog 125 = some ⟨true, 0, 0, [], .st [(0, 0)]⟩ := by kernel_rfl
theorem tk126 : tk Tryz.prog 126 = some ⟨true, 0, 0, [], .st [(0, 0)]⟩ := by kernel_rfl
theorem tk128 : tk Tryz.prog 128 = some ⟨false, 1, 1, [.int .u8 0], .int .u8⟩ := by kernel_rfl
theorem tk129 : tk Tryz.prog 129 = some ⟨false, 1, 1, [.int .u8 0], .int .u8⟩ := by kernel_rfl
theorem tk132 : tk Tryz.prog 132 = some ⟨false, 1, 4, [.int .i32 0], .int .i32⟩ := by kernel_rfl
theorem tk133 : tk Tryz.prog 133 = some ⟨false, 1, 4, [.int .i32 0], .int .i32⟩ := by kernel_rfl
theorem fd7_0 : fdOf Tryz.prog 7 0 = some (0, 2) := by kernel_rfl
theorem fd7_1 : fdOf Tryz.prog 7 1 = some (1, 3) := by kernel_rfl
theorem fd7_2 : fdOf Tryz.prog 7 2 = some (2, 4) := by kernel_rfl
theorem fd7_3 : fdOf Tryz.prog 7 3 = some (3, 6) := by kernel_rfl
theorem fd8_0 : fdOf Tryz.prog 8 0 = some (0, 2) := by kernel_rfl
theorem fd8_1 : fdOf Tryz.prog 8 1 = some (1, 3) := by kernel_rfl
theorem fd8_2 : fdOf Tryz.prog 8 2 = some (2, 4) := by kernel_rfl
theorem fd8_3 : fdOf Tryz.prog 8 3 = some (3, 6) := by kernel_rfl
theorem fd24_0 : fdOf Tryz.prog 24 0 = some (0, 4) := by kernel_rfl
theorem fd24_1 : fdOf Tryz.prog 24 1 = some (1, 23) := by kernel_rfl
theorem fd25_0 : fdOf Tryz.prog 25 0 = some (0, 4) := by kernel_rfl
theorem fd25_1 : fdOf Tryz.prog 25 1 = some (1, 23) := by kernel_rfl
theorem fd26_0 : fdOf Tryz.prog 26 0 = some (0, 25) := by kernel_rfl
theorem fd26_1 : fdOf Tryz.prog 26 1 = some (2, 3) := by kernel_rfl
theorem fd27_0 : fdOf Tryz.prog 27 0 = some (0, 25) := by kernel_rfl
theorem fd27_1 : fdOf Tryz.prog 27 1 = some (2, 3) := by kernel_rfl
theorem fd28_0 : fdOf Tryz.prog 28 0 = some (0, 27) := by kernel_rfl
theorem fd28_1 : fdOf Tryz.prog 28 1 = some (3, 27) := by kernel_rfl
theorem fd29_0 : fdOf Tryz.prog 29 0 = some (0, 27) := by kernel_rfl
theorem fd29_1 : fdOf Tryz.prog 29 1 = some (3, 27) := by kernel_rfl
theorem fd30_0 : fdOf Tryz.prog 30 0 = some (0, 29) := by kernel_rfl
theorem fd30_1 : fdOf Tryz.prog 30 1 = some (6, 27) := by kernel_rfl
theorem fd31_0 : fdOf Tryz.prog 31 0 = some (0, 29) := by kernel_rfl
theorem fd31_1 : fdOf Tryz.prog 31 1 = some (6, 27) := by kernel_rfl
theorem fd125_0 : fdOf Tryz.prog 125 0 = some (0, 124) := by kernel_rfl
theorem fd126_0 : fdOf Tryz.prog 126 0 = some (0, 124) := by kernel_rfl
def TMOVED : OT := (.cons 2 (.cons 3 (.cons 0 (.cons 1 (.cons 4 (.cons 5 (.cons 6 (.cons 7 (.cons 8 (.cons 9 .nil .nil) .nil) .nil) .nil) .nil) (.cons 5 (.cons 4 (.cons 6 (.cons 7 (.cons 8 (.cons 9 .nil .nil) .nil) .nil) .nil) .nil) .nil)) (.cons 5 (.cons 1 (.cons 4 (.cons 6 (.cons 7 (.cons 8 (.cons 9 .nil .nil) .nil) .nil) .nil) .nil) .nil) .nil)) (.cons 1 (.cons 0 (.cons 4 (.cons 5 (.cons 6 (.cons 7 (.cons 8 (.cons 9 .nil .nil) .nil) .nil) .nil) .nil) (.cons 5 (.cons 4 (.cons 6 (.cons 7 (.cons 8 (.cons 9 .nil .nil) .nil) .nil) .nil) .nil) .nil)) (.cons 4 (.cons 0 (.cons 5 (.cons 6 (.cons 7 (.cons 8 (.cons 9 .nil .nil) .nil) .nil) .nil) .nil) (.cons 5 (.cons 0 (.cons 6 (.cons 7 (.cons 8 (.cons 9 .nil .nil) .nil) .nil) .nil) (.cons 6 (.cons 7 (.cons 0 (.cons 8 (.cons 9 .nil .nil) .nil) .nil) .nil) .nil)) .nil)) (.cons 5 (.cons 0 (.cons 4 (.cons 6 (.cons 7 (.cons 8 (.cons 9 .nil .nil) .nil) .nil) .nil) .nil) (.cons 4 (.cons 0 (.cons 6 (.cons 7 (.cons 8 (.cons 9 .nil .nil) .nil) .nil) .nil) (.cons 6 (.cons 7 (.cons 0 (.cons 8 (.cons 9 .nil .nil) .nil) .nil) .nil) .nil)) .nil)) .nil))) (.cons 5 (.cons 0 (.cons 1 (.cons 4 (.cons 6 (.cons 7 (.cons 8 (.cons 9 .nil .nil) .nil) .nil) .nil) .nil) .nil) (.cons 1 (.cons 0 (.cons 4 (.cons 6 (.cons 7 (.cons 8 (.cons 9 .nil .nil) .nil) .nil) .nil) .nil) (.cons 4 (.cons 0 (.cons 6 (.cons 7 (.cons 8 (.cons 9 .nil .nil) .nil) .nil) .nil) (.cons 6 (.cons 7 (.cons 0 (.cons 8 (.cons 9 .nil .nil) .nil) .nil) .nil) .nil)) .nil)) .nil)) .nil))) .nil) .nil)
theorem annuluslaw15_CountFar.ok : FnOK Tryz.prog 5 88 (bodyOf Tryz.f5) [.tmp 6] := ⟨mix, Tryz.f5, Tryz.func5, rfl, rfl, rfl⟩
theorem annuluslaw15_CountFar.dr : drP (bodyOf Tryz.f5) := drP_of (by kernel_rfl)
theorem annuluslaw15_CountFar.call : callable Tryz.prog 5 = true := by kernel_rfl
theorem annuluslaw15_known.ok : FnOK Tryz.prog 8 67 (bodyOf Tryz.f8) [.tmp 0] := ⟨mix, Tryz.f8, Tryz.func8, rfl, rfl, rfl⟩
theorem annuluslaw15_known.dr : drP (bodyOf Tryz.f8) := drP_of (by kernel_rfl)
theorem annuluslaw15_known.call : callable Tryz.prog 8 = true := by kernel_rfl
theorem annulusref11_Trim.ok : FnOK Tryz.prog 12 35 (bodyOf Tryz.f12) [.tmp 2] := ⟨mix, Tryz.f12, Tryz.func12, rfl, rfl, rfl⟩
theorem annulusref11_Trim.dr : drP (bodyOf Tryz.f12) := drP_of (by kernel_rfl)
theorem annulusref11_Trim.call : callable Tryz.prog 12 = true := by kernel_rfl
theorem count_In.ok : FnOK Tryz.prog 14 46 (bodyOf Tryz.f14) [.tmp 8, .tmp 9] := ⟨mix, Tryz.f14, Tryz.func14, rfl, rfl, rfl⟩
theorem count_In.dr : drP (bodyOf Tryz.f14) := drP_of (by kernel_rfl)
theorem count_In.call : callable Tryz.prog 14 = true := by kernel_rfl
theorem count_Unit.ok : FnOK Tryz.prog 17 38 (bodyOf Tryz.f17) [.tmp 4] := ⟨mix, Tryz.f17, Tryz.func17, rfl, rfl, rfl⟩
theorem count_Unit.dr : drP (bodyOf Tryz.f17) := drP_of (by kernel_rfl)
theorem count_Unit.call : callable Tryz.prog 17 = true := by kernel_rfl
theorem count_None.ok : FnOK Tryz.prog 19 24 (bodyOf Tryz.f19) [.tmp 8] := ⟨mix, Tryz.f19, Tryz.func19, rfl, rfl, rfl⟩
theorem count_None.dr : drP (bodyOf Tryz.f19) := drP_of (by kernel_rfl)
theorem count_None.call : callable Tryz.prog 19 = true := by kernel_rfl
theorem annulusref11_From.ok : FnOK Tryz.prog 20 24 (bodyOf Tryz.f20) [.tmp 2] := ⟨mix, Tryz.f20, Tryz.func20, rfl, rfl, rfl⟩
theorem annulusref11_From.dr : drP (bodyOf Tryz.f20) := drP_of (by kernel_rfl)
theorem annulusref11_From.call : callable Tryz.prog 20 = true := by kernel_rfl
theorem annulusref4_Sign.ok : FnOK Tryz.prog 22 6 (bodyOf Tryz.f22) [.tmp 2] := ⟨mix, Tryz.f22, Tryz.func22, rfl, rfl, rfl⟩
theorem annulusref4_Sign.dr : drP (bodyOf Tryz.f22) := drP_of (by kernel_rfl)
theorem annulusref4_Sign.call : callable Tryz.prog 22 = true := by kernel_rfl
theorem annulusref8_Of.ok : FnOK Tryz.prog 23 10 (bodyOf Tryz.f23) [.cell 4 29] := ⟨mix, Tryz.f23, Tryz.func23, rfl, rfl, rfl⟩
theorem annulusref8_Of.dr : drP (bodyOf Tryz.f23) := drP_of (by kernel_rfl)
theorem annulusref8_Of.call : callable Tryz.prog 23 = true := by kernel_rfl
theorem annuluslaw15_of.ok : FnOK Tryz.prog 24 13 (bodyOf Tryz.f24) [.cell 6 31] := ⟨mix, Tryz.f24, Tryz.func24, rfl, rfl, rfl⟩
theorem annuluslaw15_of.dr : drP (bodyOf Tryz.f24) := drP_of (by kernel_rfl)
theorem annuluslaw15_of.call : callable Tryz.prog 24 = true := by kernel_rfl
theorem annulusref8_Cplx.ok : FnOK Tryz.prog 26 10 (bodyOf Tryz.f26) [.cell 2 29] := ⟨mix, Tryz.f26, Tryz.func26, rfl, rfl, rfl⟩
theorem annulusref8_Cplx.dr : drP (bodyOf Tryz.f26) := drP_of (by kernel_rfl)
theorem annulusref8_Cplx.call : callable Tryz.prog 26 = true := by kernel_rfl
theorem annulusref4_Of.ok : FnOK Tryz.prog 27 6 (bodyOf Tryz.f27) [.cell 2 27] := ⟨mix, Tryz.f27, Tryz.func27, rfl, rfl, rfl⟩
theorem annulusref4_Of.dr : drP (bodyOf Tryz.f27) := drP_of (by kernel_rfl)
theorem annulusref4_Of.call : callable Tryz.prog 27 = true := by kernel_rfl
theorem annulusref8_Add.ok : FnOK Tryz.prog 28 16 (bodyOf Tryz.f28) [.cell 4 29] := ⟨mix, Tryz.f28, Tryz.func28, rfl, rfl, rfl⟩
theorem annulusref8_Add.dr : drP (bodyOf Tryz.f28) := drP_of (by kernel_rfl)
theorem annulusref8_Add.call : callable Tryz.prog 28 = true := by kernel_rfl
theorem annulusref8_Mul.ok : FnOK Tryz.prog 29 28 (bodyOf Tryz.f29) [.cell 4 29] := ⟨mix, Tryz.f29, Tryz.func29, rfl, rfl, rfl⟩
theorem annulusref8_Mul.dr : drP (bodyOf Tryz.f29) := drP_of (by kernel_rfl)
theorem annulusref8_Mul.call : callable Tryz.prog 29 = true := by kernel_rfl
theorem annulusref4_Mul.ok : FnOK Tryz.prog 31 16 (bodyOf Tryz.f31) [.cell 4 27] := ⟨mix, Tryz.f31, Tryz.func31, rfl, rfl, rfl⟩
theorem annulusref4_Mul.dr : drP (bodyOf Tryz.f31) := drP_of (by kernel_rfl)
theorem annulusref4_Mul.call : callable Tryz.prog 31 = true := by kernel_rfl
theorem annulusref8_Zero.ok : FnOK Tryz.prog 32 13 (bodyOf Tryz.f32) [.tmp 2] := ⟨mix, Tryz.f32, Tryz.func32, rfl, rfl, rfl⟩
theorem annulusref8_Zero.dr : drP (bodyOf Tryz.f32) := drP_of (by kernel_rfl)
theorem annulusref8_Zero.call : callable Tryz.prog 32 = true := by kernel_rfl
theorem annulusref4_Exact.ok : FnOK Tryz.prog 33 8 (bodyOf Tryz.f33) [.cell 2 27] := ⟨mix, Tryz.f33, Tryz.func33, rfl, rfl, rfl⟩
theorem annulusref4_Exact.dr : drP (bodyOf Tryz.f33) := drP_of (by kernel_rfl)
theorem annulusref4_Exact.call : callable Tryz.prog 33 = true := by kernel_rfl
theorem poly_Degree.ok : FnOK Tryz.prog 34 7 (bodyOf Tryz.f34) [.tmp 2] := ⟨mix, Tryz.f34, Tryz.func34, rfl, rfl, rfl⟩
theorem poly_Degree.dr : drP (bodyOf Tryz.f34) := drP_of (by kernel_rfl)
theorem poly_Degree.call : callable Tryz.prog 34 = true := by kernel_rfl
theorem dyad_Sign.ok : FnOK Tryz.prog 35 6 (bodyOf Tryz.f35) [.tmp 2] := ⟨mix, Tryz.f35, Tryz.func35, rfl, rfl, rfl⟩
theorem dyad_Sign.dr : drP (bodyOf Tryz.f35) := drP_of (by kernel_rfl)
theorem dyad_Sign.call : callable Tryz.prog 35 = true := by kernel_rfl
theorem pellet_Any.ok : FnOK Tryz.prog 36 33 (bodyOf Tryz.f36) [.tmp 4, .tmp 5] := ⟨mix, Tryz.f36, Tryz.func36, rfl, rfl, rfl⟩
theorem pellet_Any.dr : drP (bodyOf Tryz.f36) := drP_of (by kernel_rfl)
theorem pellet_Any.call : callable Tryz.prog 36 = true := by kernel_rfl
theorem graeffe_Step.ok : FnOK Tryz.prog 37 30 (bodyOf Tryz.f37) [.tmp 2] := ⟨mix, Tryz.f37, Tryz.func37, rfl, rfl, rfl⟩
theorem graeffe_Step.dr : drP (bodyOf Tryz.f37) := drP_of (by kernel_rfl)
theorem graeffe_Step.call : callable Tryz.prog 37 = true := by kernel_rfl
theorem poly_Shift.ok : FnOK Tryz.prog 41 27 (bodyOf Tryz.f41) [.tmp 4] := ⟨mix, Tryz.f41, Tryz.func41, rfl, rfl, rfl⟩
theorem poly_Shift.dr : drP (bodyOf Tryz.f41) := drP_of (by kernel_rfl)
theorem poly_Shift.call : callable Tryz.prog 41 = true := by kernel_rfl
theorem dyad_Of.ok : FnOK Tryz.prog 42 6 (bodyOf Tryz.f42) [.cell 2 27] := ⟨mix, Tryz.f42, Tryz.func42, rfl, rfl, rfl⟩
theorem dyad_Of.dr : drP (bodyOf Tryz.f42) := drP_of (by kernel_rfl)
theorem dyad_Of.call : callable Tryz.prog 42 = true := by kernel_rfl
theorem dyad_Max.ok : FnOK Tryz.prog 43 13 (bodyOf Tryz.f43) [.cell 4 27] := ⟨mix, Tryz.f43, Tryz.func43, rfl, rfl, rfl⟩
theorem dyad_Max.dr : drP (bodyOf Tryz.f43) := drP_of (by kernel_rfl)
theorem dyad_Max.call : callable Tryz.prog 43 = true := by kernel_rfl
theorem gauss_Times.ok : FnOK Tryz.prog 44 14 (bodyOf Tryz.f44) [.cell 4 29] := ⟨mix, Tryz.f44, Tryz.func44, rfl, rfl, rfl⟩
theorem gauss_Times.dr : drP (bodyOf Tryz.f44) := drP_of (by kernel_rfl)
theorem gauss_Times.call : callable Tryz.prog 44 = true := by kernel_rfl
theorem dyad_Mul.ok : FnOK Tryz.prog 45 18 (bodyOf Tryz.f45) [.cell 4 27] := ⟨mix, Tryz.f45, Tryz.func45, rfl, rfl, rfl⟩
theorem dyad_Mul.dr : drP (bodyOf Tryz.f45) := drP_of (by kernel_rfl)
theorem dyad_Mul.call : callable Tryz.prog 45 = true := by kernel_rfl
theorem poly_Trim.ok : FnOK Tryz.prog 46 35 (bodyOf Tryz.f46) [.tmp 2] := ⟨mix, Tryz.f46, Tryz.func46, rfl, rfl, rfl⟩
theorem poly_Trim.dr : drP (bodyOf Tryz.f46) := drP_of (by kernel_rfl)
theorem poly_Trim.call : callable Tryz.prog 46 = true := by kernel_rfl
theorem annulusref11_Mul.ok : FnOK Tryz.prog 48 58 (bodyOf Tryz.f48) [.tmp 4] := ⟨mix, Tryz.f48, Tryz.func48, rfl, rfl, rfl⟩
theorem annulusref11_Mul.dr : drP (bodyOf Tryz.f48) := drP_of (by kernel_rfl)
theorem annulusref11_Mul.call : callable Tryz.prog 48 = true := by kernel_rfl
theorem annulusref8_Neg.ok : FnOK Tryz.prog 49 10 (bodyOf Tryz.f49) [.cell 2 29] := ⟨mix, Tryz.f49, Tryz.func49, rfl, rfl, rfl⟩
theorem annulusref8_Neg.dr : drP (bodyOf Tryz.f49) := drP_of (by kernel_rfl)
theorem annulusref8_Neg.call : callable Tryz.prog 49 = true := by kernel_rfl
theorem annulusref1_Sign.ok : FnOK Tryz.prog 52 14 (bodyOf Tryz.f52) [.tmp 2] := ⟨mix, Tryz.f52, Tryz.func52, rfl, rfl, rfl⟩
theorem annulusref1_Sign.dr : drP (bodyOf Tryz.f52) := drP_of (by kernel_rfl)
theorem annulusref1_Sign.call : callable Tryz.prog 52 = true := by kernel_rfl
theorem annulusref4_Make.ok : FnOK Tryz.prog 53 30 (bodyOf Tryz.f53) [.cell 4 27] := ⟨mix, Tryz.f53, Tryz.func53, rfl, rfl, rfl⟩
theorem annulusref4_Make.dr : drP (bodyOf Tryz.f53) := drP_of (by kernel_rfl)
theorem annulusref4_Make.call : callable Tryz.prog 53 = true := by kernel_rfl
theorem annulusref1_Of.ok : FnOK Tryz.prog 54 20 (bodyOf Tryz.f54) [.cell 2 25] := ⟨mix, Tryz.f54, Tryz.func54, rfl, rfl, rfl⟩
theorem annulusref1_Of.dr : drP (bodyOf Tryz.f54) := drP_of (by kernel_rfl)
theorem annulusref1_Of.call : callable Tryz.prog 54 = true := by kernel_rfl
theorem annulusref4_Add.ok : FnOK Tryz.prog 55 38 (bodyOf Tryz.f55) [.cell 4 27] := ⟨mix, Tryz.f55, Tryz.func55, rfl, rfl, rfl⟩
theorem annulusref4_Add.dr : drP (bodyOf Tryz.f55) := drP_of (by kernel_rfl)
theorem annulusref4_Add.call : callable Tryz.prog 55 = true := by kernel_rfl
theorem annulusref4_Sub.ok : FnOK Tryz.prog 56 9 (bodyOf Tryz.f56) [.cell 4 27] := ⟨mix, Tryz.f56, Tryz.func56, rfl, rfl, rfl⟩
theorem annulusref4_Sub.dr : drP (bodyOf Tryz.f56) := drP_of (by kernel_rfl)
theorem annulusref4_Sub.call : callable Tryz.prog 56 = true := by kernel_rfl
theorem annulusref4_exact.ok : FnOK Tryz.prog 57 28 (bodyOf Tryz.f57) [.cell 4 27] := ⟨mix, Tryz.f57, Tryz.func57, rfl, rfl, rfl⟩
theorem annulusref4_exact.dr : drP (bodyOf Tryz.f57) := drP_of (by kernel_rfl)
theorem annulusref4_exact.call : callable Tryz.prog 57 = true := by kernel_rfl
theorem annulusref1_MulInt.ok : FnOK Tryz.prog 58 23 (bodyOf Tryz.f58) [.cell 4 25] := ⟨mix, Tryz.f58, Tryz.func58, rfl, rfl, rfl⟩
theorem annulusref1_MulInt.dr : drP (bodyOf Tryz.f58) := drP_of (by kernel_rfl)
theorem annulusref1_MulInt.call : callable Tryz.prog 58 = true := by kernel_rfl
theorem whole_Sign.ok : FnOK Tryz.prog 59 19 (bodyOf Tryz.f59) [.tmp 2] := ⟨mix, Tryz.f59, Tryz.func59, rfl, rfl, rfl⟩
theorem whole_Sign.dr : drP (bodyOf Tryz.f59) := drP_of (by kernel_rfl)
theorem whole_Sign.call : callable Tryz.prog 59 = true := by kernel_rfl
theorem pellet_others.ok : FnOK Tryz.prog 60 30 (bodyOf Tryz.f60) [.cell 8 27] := ⟨mix, Tryz.f60, Tryz.func60, rfl, rfl, rfl⟩
theorem pellet_others.dr : drP (bodyOf Tryz.f60) := drP_of (by kernel_rfl)
theorem pellet_others.call : callable Tryz.prog 60 = true := by kernel_rfl
theorem dyad_Cmp.ok : FnOK Tryz.prog 61 9 (bodyOf Tryz.f61) [.tmp 4] := ⟨mix, Tryz.f61, Tryz.func61, rfl, rfl, rfl⟩
theorem dyad_Cmp.dr : drP (bodyOf Tryz.f61) := drP_of (by kernel_rfl)
theorem dyad_Cmp.call : callable Tryz.prog 61 = true := by kernel_rfl
theorem pellet_Far.ok : FnOK Tryz.prog 62 18 (bodyOf Tryz.f62) [.cell 6 27] := ⟨mix, Tryz.f62, Tryz.func62, rfl, rfl, rfl⟩
theorem pellet_Far.dr : drP (bodyOf Tryz.f62) := drP_of (by kernel_rfl)
theorem pellet_Far.call : callable Tryz.prog 62 = true := by kernel_rfl
theorem dyad_Sub.ok : FnOK Tryz.prog 63 13 (bodyOf Tryz.f63) [.cell 4 27] := ⟨mix, Tryz.f63, Tryz.func63, rfl, rfl, rfl⟩
theorem dyad_Sub.dr : drP (bodyOf Tryz.f63) := drP_of (by kernel_rfl)
theorem dyad_Sub.call : callable Tryz.prog 63 = true := by kernel_rfl
theorem graeffe_Split.ok : FnOK Tryz.prog 64 32 (bodyOf Tryz.f64) [.tmp 2, .tmp 3] := ⟨mix, Tryz.f64, Tryz.func64, rfl, rfl, rfl⟩
theorem graeffe_Split.dr : drPx 5 [[0, 1, 2, 3, 4, 5, 6, 7, 8, 9, 10], [0, 1, 2, 3, 4, 6, 5, 7, 8, 9, 10], [0, 1, 2, 3, 4, 6, 7, 5, 8, 9, 10]] (bodyOf Tryz.f64) := drPx_of (by kernel_rfl)
theorem graeffe_Split.call : callable Tryz.prog 64 = true := by kernel_rfl
theorem poly_Mul.ok : FnOK Tryz.prog 65 49 (bodyOf Tryz.f65) [.tmp 4] := ⟨mix, Tryz.f65, Tryz.func65, rfl, rfl, rfl⟩
theorem poly_Mul.dr : drP (bodyOf Tryz.f65) := drP_of (by kernel_rfl)
theorem poly_Mul.call : callable Tryz.prog 65 = true := by kernel_rfl
theorem poly_Sub.ok : FnOK Tryz.prog 66 31 (bodyOf Tryz.f66) [.tmp 4] := ⟨mix, Tryz.f66, Tryz.func66, rfl, rfl, rfl⟩
theorem poly_Sub.dr : drP (bodyOf Tryz.f66) := drP_of (by kernel_rfl)
theorem poly_Sub.call : callable Tryz.prog 66 = true := by kernel_rfl
theorem poly_Part.ok : FnOK Tryz.prog 72 34 (bodyOf Tryz.f72) [.tmp 4, .cell 5 29] := ⟨mix, Tryz.f72, Tryz.func72, rfl, rfl, rfl⟩
theorem poly_Part.dr : drP (bodyOf Tryz.f72) := drP_of (by kernel_rfl)
theorem poly_Part.call : callable Tryz.prog 72 = true := by kernel_rfl
theorem dyad_Raw.ok : FnOK Tryz.prog 73 27 (bodyOf Tryz.f73) [.cell 4 27] := ⟨mix, Tryz.f73, Tryz.func73, rfl, rfl, rfl⟩
theorem dyad_Raw.dr : drP (bodyOf Tryz.f73) := drP_of (by kernel_rfl)
theorem dyad_Raw.call : callable Tryz.prog 73 = true := by kernel_rfl
theorem whole_Of.ok : FnOK Tryz.prog 74 19 (bodyOf Tryz.f74) [.cell 2 25] := ⟨mix, Tryz.f74, Tryz.func74, rfl, rfl, rfl⟩
theorem whole_Of.dr : drP (bodyOf Tryz.f74) := drP_of (by kernel_rfl)
theorem whole_Of.call : callable Tryz.prog 74 = true := by kernel_rfl
theorem dyad_of.ok : FnOK Tryz.prog 75 9 (bodyOf Tryz.f75) [.cell 2 27] := ⟨mix, Tryz.f75, Tryz.func75, rfl, rfl, rfl⟩
theorem dyad_of.dr : drP (bodyOf Tryz.f75) := drP_of (by kernel_rfl)
theorem dyad_of.call : callable Tryz.prog 75 = true := by kernel_rfl
theorem whole_Mul.ok : FnOK Tryz.prog 76 16 (bodyOf Tryz.f76) [.cell 4 25] := ⟨mix, Tryz.f76, Tryz.func76, rfl, rfl, rfl⟩
theorem whole_Mul.dr : drP (bodyOf Tryz.f76) := drP_of (by kernel_rfl)
theorem whole_Mul.call : callable Tryz.prog 76 = true := by kernel_rfl
theorem dyad_kept.ok : FnOK Tryz.prog 77 6 (bodyOf Tryz.f77) [.tmp 2] := ⟨mix, Tryz.f77, Tryz.func77, rfl, rfl, rfl⟩
theorem dyad_kept.dr : drP (bodyOf Tryz.f77) := drP_of (by kernel_rfl)
theorem dyad_kept.call : callable Tryz.prog 77 = true := by kernel_rfl
theorem gauss_Zero.ok : FnOK Tryz.prog 78 13 (bodyOf Tryz.f78) [.tmp 2] := ⟨mix, Tryz.f78, Tryz.func78, rfl, rfl, rfl⟩
theorem gauss_Zero.dr : drP (bodyOf Tryz.f78) := drP_of (by kernel_rfl)
theorem gauss_Zero.call : callable Tryz.prog 78 = true := by kernel_rfl
theorem gauss_Scale.ok : FnOK Tryz.prog 79 14 (bodyOf Tryz.f79) [.cell 4 29] := ⟨mix, Tryz.f79, Tryz.func79, rfl, rfl, rfl⟩
theorem gauss_Scale.dr : drP (bodyOf Tryz.f79) := drP_of (by kernel_rfl)
theorem gauss_Scale.call : callable Tryz.prog 79 = true := by kernel_rfl
theorem annulusref4_Neg.ok : FnOK Tryz.prog 81 9 (bodyOf Tryz.f81) [.cell 2 27] := ⟨mix, Tryz.f81, Tryz.func81, rfl, rfl, rfl⟩
theorem annulusref4_Neg.dr : drP (bodyOf Tryz.f81) := drP_of (by kernel_rfl)
theorem annulusref4_Neg.call : callable Tryz.prog 81 = true := by kernel_rfl
theorem annulusref1_Norm.ok : FnOK Tryz.prog 84 16 (bodyOf Tryz.f84) [.cell 2 25] := ⟨mix, Tryz.f84, Tryz.func84, rfl, rfl, rfl⟩
theorem annulusref1_Norm.dr : drP (bodyOf Tryz.f84) := drP_of (by kernel_rfl)
theorem annulusref1_Norm.call : callable Tryz.prog 84 = true := by kernel_rfl
theorem annulusref1_Low.ok : FnOK Tryz.prog 85 17 (bodyOf Tryz.f85) [.tmp 2] := ⟨mix, Tryz.f85, Tryz.func85, rfl, rfl, rfl⟩
theorem annulusref1_Low.dr : drP (bodyOf Tryz.f85) := drP_of (by kernel_rfl)
theorem annulusref1_Low.call : callable Tryz.prog 85 = true := by kernel_rfl
theorem annulusref1_Shr.ok : FnOK Tryz.prog 86 49 (bodyOf Tryz.f86) [.tmp 4] := ⟨mix, Tryz.f86, Tryz.func86, rfl, rfl, rfl⟩
theorem annulusref1_Shr.dr : drP (bodyOf Tryz.f86) := drP_of (by kernel_rfl)
theorem annulusref1_Shr.call : callable Tryz.prog 86 = true := by kernel_rfl
theorem annulusref1_AddInt.ok : FnOK Tryz.prog 87 54 (bodyOf Tryz.f87) [.cell 4 25] := ⟨mix, Tryz.f87, Tryz.func87, rfl, rfl, rfl⟩
theorem annulusref1_AddInt.dr : drP (bodyOf Tryz.f87) := drP_of (by kernel_rfl)
theorem annulusref1_AddInt.call : callable Tryz.prog 87 = true := by kernel_rfl
theorem annulusref1_ShlInt.ok : FnOK Tryz.prog 88 14 (bodyOf Tryz.f88) [.cell 4 25] := ⟨mix, Tryz.f88, Tryz.func88, rfl, rfl, rfl⟩
theorem annulusref1_ShlInt.dr : drP (bodyOf Tryz.f88) := drP_of (by kernel_rfl)
theorem annulusref1_ShlInt.call : callable Tryz.prog 88 = true := by kernel_rfl
theorem annulusref1_Mul.ok : FnOK Tryz.prog 89 68 (bodyOf Tryz.f89) [.tmp 4] := ⟨mix, Tryz.f89, Tryz.func89, rfl, rfl, rfl⟩
theorem annulusref1_Mul.dr : drP (bodyOf Tryz.f89) := drP_of (by kernel_rfl)
theorem annulusref1_Mul.call : callable Tryz.prog 89 = true := by kernel_rfl
theorem whole_Norm.ok : FnOK Tryz.prog 90 8 (bodyOf Tryz.f90) [.cell 2 25] := ⟨mix, Tryz.f90, Tryz.func90, rfl, rfl, rfl⟩
theorem whole_Norm.dr : drP (bodyOf Tryz.f90) := drP_of (by kernel_rfl)
theorem whole_Norm.call : callable Tryz.prog 90 = true := by kernel_rfl
theorem dyad_Add.ok : FnOK Tryz.prog 91 40 (bodyOf Tryz.f91) [.cell 4 27] := ⟨mix, Tryz.f91, Tryz.func91, rfl, rfl, rfl⟩
theorem dyad_Add.dr : drP (bodyOf Tryz.f91) := drP_of (by kernel_rfl)
theorem dyad_Add.call : callable Tryz.prog 91 = true := by kernel_rfl
theorem quot_Root.ok : FnOK Tryz.prog 92 61 (bodyOf Tryz.f92) [.cell 6 27, .tmp 7] := ⟨mix, Tryz.f92, Tryz.func92, rfl, rfl, rfl⟩
theorem quot_Root.dr : drP (bodyOf Tryz.f92) := drP_of (by kernel_rfl)
theorem quot_Root.call : callable Tryz.prog 92 = true := by kernel_rfl
theorem gauss_Norm.ok : FnOK Tryz.prog 93 14 (bodyOf Tryz.f93) [.cell 2 27] := ⟨mix, Tryz.f93, Tryz.func93, rfl, rfl, rfl⟩
theorem gauss_Norm.dr : drP (bodyOf Tryz.f93) := drP_of (by kernel_rfl)
theorem gauss_Norm.call : callable Tryz.prog 93 = true := by kernel_rfl
theorem whole_Neg.ok : FnOK Tryz.prog 94 9 (bodyOf Tryz.f94) [.cell 2 25] := ⟨mix, Tryz.f94, Tryz.func94, rfl, rfl, rfl⟩
theorem whole_Neg.dr : drP (bodyOf Tryz.f94) := drP_of (by kernel_rfl)
theorem whole_Neg.call : callable Tryz.prog 94 = true := by kernel_rfl
theorem gauss_Add.ok : FnOK Tryz.prog 95 16 (bodyOf Tryz.f95) [.cell 4 29] := ⟨mix, Tryz.f95, Tryz.func95, rfl, rfl, rfl⟩
theorem gauss_Add.dr : drP (bodyOf Tryz.f95) := drP_of (by kernel_rfl)
theorem gauss_Add.call : callable Tryz.prog 95 = true := by kernel_rfl
theorem gauss_Mul.ok : FnOK Tryz.prog 96 28 (bodyOf Tryz.f96) [.cell 4 29] := ⟨mix, Tryz.f96, Tryz.func96, rfl, rfl, rfl⟩
theorem gauss_Mul.dr : drP (bodyOf Tryz.f96) := drP_of (by kernel_rfl)
theorem gauss_Mul.call : callable Tryz.prog 96 = true := by kernel_rfl
theorem gauss_Sub.ok : FnOK Tryz.prog 97 16 (bodyOf Tryz.f97) [.cell 4 29] := ⟨mix, Tryz.f97, Tryz.func97, rfl, rfl, rfl⟩
theorem gauss_Sub.dr : drP (bodyOf Tryz.f97) := drP_of (by kernel_rfl)
theorem gauss_Sub.call : callable Tryz.prog 97 = true := by kernel_rfl
theorem poly_at.ok : FnOK Tryz.prog 98 14 (bodyOf Tryz.f98) [.cell 4 29] := ⟨mix, Tryz.f98, Tryz.func98, rfl, rfl, rfl⟩
theorem poly_at.dr : drP (bodyOf Tryz.f98) := drP_of (by kernel_rfl)
theorem poly_at.call : callable Tryz.prog 98 = true := by kernel_rfl
theorem nat_Low.ok : FnOK Tryz.prog 102 20 (bodyOf Tryz.f102) [.tmp 2] := ⟨mix, Tryz.f102, Tryz.func102, rfl, rfl, rfl⟩
theorem nat_Low.dr : drP (bodyOf Tryz.f102) := drP_of (by kernel_rfl)
theorem nat_Low.call : callable Tryz.prog 102 = true := by kernel_rfl
theorem nat_Downwards.ok : FnOK Tryz.prog 103 53 (bodyOf Tryz.f103) [.tmp 4] := ⟨mix, Tryz.f103, Tryz.func103, rfl, rfl, rfl⟩
theorem nat_Downwards.dr : drP (bodyOf Tryz.f103) := drP_of (by kernel_rfl)
theorem nat_Downwards.call : callable Tryz.prog 103 = true := by kernel_rfl
theorem whole_with.ok : FnOK Tryz.prog 104 15 (bodyOf Tryz.f104) [.cell 4 25] := ⟨mix, Tryz.f104, Tryz.func104, rfl, rfl, rfl⟩
theorem whole_with.dr : drP (bodyOf Tryz.f104) := drP_of (by kernel_rfl)
theorem whole_with.call : callable Tryz.prog 104 = true := by kernel_rfl
theorem nat_Mul.ok : FnOK Tryz.prog 105 71 (bodyOf Tryz.f105) [.tmp 4] := ⟨mix, Tryz.f105, Tryz.func105, rfl, rfl, rfl⟩
theorem nat_Mul.dr : drP (bodyOf Tryz.f105) := drP_of (by kernel_rfl)
theorem nat_Mul.call : callable Tryz.prog 105 = true := by kernel_rfl
theorem dyad_Scale.ok : FnOK Tryz.prog 106 14 (bodyOf Tryz.f106) [.cell 4 27] := ⟨mix, Tryz.f106, Tryz.func106, rfl, rfl, rfl⟩
theorem dyad_Scale.dr : drP (bodyOf Tryz.f106) := drP_of (by kernel_rfl)
theorem dyad_Scale.call : callable Tryz.prog 106 = true := by kernel_rfl
theorem annulusref1_Neg.ok : FnOK Tryz.prog 107 10 (bodyOf Tryz.f107) [.cell 2 25] := ⟨mix, Tryz.f107, Tryz.func107, rfl, rfl, rfl⟩
theorem annulusref1_Neg.dr : drP (bodyOf Tryz.f107) := drP_of (by kernel_rfl)
theorem annulusref1_Neg.call : callable Tryz.prog 107 = true := by kernel_rfl
theorem annulusref1_Trim.ok : FnOK Tryz.prog 108 21 (bodyOf Tryz.f108) [.tmp 2] := ⟨mix, Tryz.f108, Tryz.func108, rfl, rfl, rfl⟩
theorem annulusref1_Trim.dr : drP (bodyOf Tryz.f108) := drP_of (by kernel_rfl)
theorem annulusref1_Trim.call : callable Tryz.prog 108 = true := by kernel_rfl
theorem annulusref1_Bit.ok : FnOK Tryz.prog 109 27 (bodyOf Tryz.f109) [.tmp 4] := ⟨mix, Tryz.f109, Tryz.func109, rfl, rfl, rfl⟩
theorem annulusref1_Bit.dr : drP (bodyOf Tryz.f109) := drP_of (by kernel_rfl)
theorem annulusref1_Bit.call : callable Tryz.prog 109 = true := by kernel_rfl
theorem annulusref1_at.ok : FnOK Tryz.prog 110 14 (bodyOf Tryz.f110) [.tmp 4] := ⟨mix, Tryz.f110, Tryz.func110, rfl, rfl, rfl⟩
theorem annulusref1_at.dr : drP (bodyOf Tryz.f110) := drP_of (by kernel_rfl)
theorem annulusref1_at.call : callable Tryz.prog 110 = true := by kernel_rfl
theorem annulusref1_Add.ok : FnOK Tryz.prog 111 40 (bodyOf Tryz.f111) [.tmp 4] := ⟨mix, Tryz.f111, Tryz.func111, rfl, rfl, rfl⟩
theorem annulusref1_Add.dr : drP (bodyOf Tryz.f111) := drP_of (by kernel_rfl)
theorem annulusref1_Add.call : callable Tryz.prog 111 = true := by kernel_rfl
theorem annulusref1_Sub.ok : FnOK Tryz.prog 112 41 (bodyOf Tryz.f112) [.tmp 4, .tmp 5] := ⟨mix, Tryz.f112, Tryz.func112, rfl, rfl, rfl⟩
theorem annulusref1_Sub.dr : drP (bodyOf Tryz.f112) := drP_of (by kernel_rfl)
theorem annulusref1_Sub.call : callable Tryz.prog 112 = true := by kernel_rfl
theorem annulusref1_Shl.ok : FnOK Tryz.prog 113 62 (bodyOf Tryz.f113) [.tmp 4] := ⟨mix, Tryz.f113, Tryz.func113, rfl, rfl, rfl⟩
theorem annulusref1_Shl.dr : drP (bodyOf Tryz.f113) := drP_of (by kernel_rfl)
theorem annulusref1_Shl.call : callable Tryz.prog 113 = true := by kernel_rfl
theorem whole_Add.ok : FnOK Tryz.prog 114 47 (bodyOf Tryz.f114) [.cell 4 25] := ⟨mix, Tryz.f114, Tryz.func114, rfl, rfl, rfl⟩
theorem whole_Add.dr : drP (bodyOf Tryz.f114) := drP_of (by kernel_rfl)
theorem whole_Add.call : callable Tryz.prog 114 = true := by kernel_rfl
theorem whole_Up.ok : FnOK Tryz.prog 115 12 (bodyOf Tryz.f115) [.cell 4 25] := ⟨mix, Tryz.f115, Tryz.func115, rfl, rfl, rfl⟩
theorem whole_Up.dr : drP (bodyOf Tryz.f115) := drP_of (by kernel_rfl)
theorem whole_Up.call : callable Tryz.prog 115 = true := by kernel_rfl
theorem dyad_Norm.ok : FnOK Tryz.prog 116 5 (bodyOf Tryz.f116) [.cell 2 27] := ⟨mix, Tryz.f116, Tryz.func116, rfl, rfl, rfl⟩
theorem dyad_Norm.dr : drP (bodyOf Tryz.f116) := drP_of (by kernel_rfl)
theorem dyad_Norm.call : callable Tryz.prog 116 = true := by kernel_rfl
theorem dyad_Top.ok : FnOK Tryz.prog 117 16 (bodyOf Tryz.f117) [.tmp 2] := ⟨mix, Tryz.f117, Tryz.func117, rfl, rfl, rfl⟩
theorem dyad_Top.dr : drP (bodyOf Tryz.f117) := drP_of (by kernel_rfl)
theorem dyad_Top.call : callable Tryz.prog 117 = true := by kernel_rfl
theorem round_Held.ok : FnOK Tryz.prog 118 6 (bodyOf Tryz.f118) [.tmp 2] := ⟨mix, Tryz.f118, Tryz.func118, rfl, rfl, rfl⟩
theorem round_Held.dr : drP (bodyOf Tryz.f118) := drP_of (by kernel_rfl)
theorem round_Held.call : callable Tryz.prog 118 = true := by kernel_rfl
theorem quot_moved.ok : FnOK Tryz.prog 119 24 (bodyOf Tryz.f119) [.cell 4 25, .tmp 5] := ⟨mix, Tryz.f119, Tryz.func119, rfl, rfl, rfl⟩
theorem quot_moved.dr : drPt 4 TMOVED (bodyOf Tryz.f119) := drPt_of (by kernel_rfl)
theorem quot_moved.call : callable Tryz.prog 119 = true := by kernel_rfl
theorem nat_Root.ok : FnOK Tryz.prog 120 36 (bodyOf Tryz.f120) [.tmp 2] := ⟨mix, Tryz.f120, Tryz.func120, rfl, rfl, rfl⟩
theorem nat_Root.dr : drP (bodyOf Tryz.f120) := drP_of (by kernel_rfl)
theorem nat_Root.call : callable Tryz.prog 120 = true := by kernel_rfl
theorem nat_Cmp.ok : FnOK Tryz.prog 121 47 (bodyOf Tryz.f121) [.tmp 4] := ⟨mix, Tryz.f121, Tryz.func121, rfl, rfl, rfl⟩
theorem nat_Cmp.dr : drP (bodyOf Tryz.f121) := drP_of (by kernel_rfl)
theorem nat_Cmp.call : callable Tryz.prog 121 = true := by kernel_rfl
theorem quot_told.ok : FnOK Tryz.prog 122 23 (bodyOf Tryz.f122) [.cell 8 27] := ⟨mix, Tryz.f122, Tryz.func122, rfl, rfl, rfl⟩
theorem quot_told.dr : drP (bodyOf Tryz.f122) := drP_of (by kernel_rfl)
theorem quot_told.call : callable Tryz.prog 122 = true := by kernel_rfl
theorem math_bits_TrailingZeros32.ok : FnOK Tryz.prog 125 14 (bodyOf Tryz.f125) [.tmp 2] := ⟨mix, Tryz.f125, Tryz.func125, rfl, rfl, rfl⟩
theorem math_bits_TrailingZeros32.dr : drP (bodyOf Tryz.f125) := drP_of (by kernel_rfl)
theorem math_bits_TrailingZeros32.call : callable Tryz.prog 125 = true := by kernel_rfl
theorem nat_cut.ok : FnOK Tryz.prog 126 21 (bodyOf Tryz.f126) [.tmp 2] := ⟨mix, Tryz.f126, Tryz.func126, rfl, rfl, rfl⟩
theorem nat_cut.dr : drP (bodyOf Tryz.f126) := drP_of (by kernel_rfl)
theorem nat_cut.call : callable Tryz.prog 126 = true := by kernel_rfl
theorem nat_at.ok : FnOK Tryz.prog 127 18 (bodyOf Tryz.f127) [.tmp 4] := ⟨mix, Tryz.f127, Tryz.func127, rfl, rfl, rfl⟩
theorem nat_at.dr : drP (bodyOf Tryz.f127) := drP_of (by kernel_rfl)
theorem nat_at.call : callable Tryz.prog 127 = true := by kernel_rfl
theorem nat_Trim.ok : FnOK Tryz.prog 128 6 (bodyOf Tryz.f128) [.tmp 2] := ⟨mix, Tryz.f128, Tryz.func128, rfl, rfl, rfl⟩
theorem nat_Trim.dr : drP (bodyOf Tryz.f128) := drP_of (by kernel_rfl)
theorem nat_Trim.call : callable Tryz.prog 128 = true := by kernel_rfl
theorem dyad_held.ok : FnOK Tryz.prog 129 6 (bodyOf Tryz.f129) [.tmp 2] := ⟨mix, Tryz.f129, Tryz.func129, rfl, rfl, rfl⟩
theorem dyad_held.dr : drP (bodyOf Tryz.f129) := drP_of (by kernel_rfl)
theorem dyad_held.call : callable Tryz.prog 129 = true := by kernel_rfl
theorem annulusref1_Cmp.ok : FnOK Tryz.prog 130 47 (bodyOf Tryz.f130) [.tmp 4] := ⟨mix, Tryz.f130, Tryz.func130, rfl, rfl, rfl⟩
theorem annulusref1_Cmp.dr : drP (bodyOf Tryz.f130) := drP_of (by kernel_rfl)
theorem annulusref1_Cmp.call : callable Tryz.prog 130 = true := by kernel_rfl
theorem nat_Add.ok : FnOK Tryz.prog 131 39 (bodyOf Tryz.f131) [.tmp 4] := ⟨mix, Tryz.f131, Tryz.func131, rfl, rfl, rfl⟩
theorem nat_Add.dr : drP (bodyOf Tryz.f131) := drP_of (by kernel_rfl)
theorem nat_Add.call : callable Tryz.prog 131 = true := by kernel_rfl
theorem nat_Sub.ok : FnOK Tryz.prog 132 42 (bodyOf Tryz.f132) [.tmp 4, .tmp 5] := ⟨mix, Tryz.f132, Tryz.func132, rfl, rfl, rfl⟩
theorem nat_Sub.dr : drP (bodyOf Tryz.f132) := drP_of (by kernel_rfl)
theorem nat_Sub.call : callable Tryz.prog 132 = true := by kernel_rfl
theorem nat_Up.ok : FnOK Tryz.prog 133 55 (bodyOf Tryz.f133) [.tmp 4] := ⟨mix, Tryz.f133, Tryz.func133, rfl, rfl, rfl⟩
theorem nat_Up.dr : drP (bodyOf Tryz.f133) := drP_of (by kernel_rfl)
theorem nat_Up.call : callable Tryz.prog 133 = true := by kernel_rfl
theorem nat_Bits.ok : FnOK Tryz.prog 134 20 (bodyOf Tryz.f134) [.tmp 2] := ⟨mix, Tryz.f134, Tryz.func134, rfl, rfl, rfl⟩
theorem nat_Bits.dr : drP (bodyOf Tryz.f134) := drP_of (by kernel_rfl)
theorem nat_Bits.call : callable Tryz.prog 134 = true := by kernel_rfl
theorem whole_Downwards.ok : FnOK Tryz.prog 135 30 (bodyOf Tryz.f135) [.cell 4 25] := ⟨mix, Tryz.f135, Tryz.func135, rfl, rfl, rfl⟩
theorem whole_Downwards.dr : drP (bodyOf Tryz.f135) := drP_of (by kernel_rfl)
theorem whole_Downwards.call : callable Tryz.prog 135 = true := by kernel_rfl
theorem whole_Cmp.ok : FnOK Tryz.prog 136 9 (bodyOf Tryz.f136) [.tmp 4] := ⟨mix, Tryz.f136, Tryz.func136, rfl, rfl, rfl⟩
theorem whole_Cmp.dr : drP (bodyOf Tryz.f136) := drP_of (by kernel_rfl)
theorem whole_Cmp.call : callable Tryz.prog 136 = true := by kernel_rfl
theorem nat_Shl.ok : FnOK Tryz.prog 137 9 (bodyOf Tryz.f137) [.tmp 4] := ⟨mix, Tryz.f137, Tryz.func137, rfl, rfl, rfl⟩
theorem nat_Shl.dr : drP (bodyOf Tryz.f137) := drP_of (by kernel_rfl)
theorem nat_Shl.call : callable Tryz.prog 137 = true := by kernel_rfl
theorem nat_Div.ok : FnOK Tryz.prog 138 94 (bodyOf Tryz.f138) [.tmp 4, .tmp 5, .tmp 6] := ⟨mix, Tryz.f138, Tryz.func138, rfl, rfl, rfl⟩
theorem nat_Div.dr : drP (bodyOf Tryz.f138) := drP_of (by kernel_rfl)
theorem nat_Div.call : callable Tryz.prog 138 = true := by kernel_rfl
theorem nat_Shr.ok : FnOK Tryz.prog 139 9 (bodyOf Tryz.f139) [.tmp 4] := ⟨mix, Tryz.f139, Tryz.func139, rfl, rfl, rfl⟩
theorem nat_Shr.dr : drP (bodyOf Tryz.f139) := drP_of (by kernel_rfl)
theorem nat_Shr.call : callable Tryz.prog 139 = true := by kernel_rfl
theorem slices_Clone_uint32_uint32.ok : FnOK Tryz.prog 144 8 (bodyOf Tryz.f144) [.tmp 2] := ⟨mix, Tryz.f144, Tryz.func144, rfl, rfl, rfl⟩
theorem slices_Clone_uint32_uint32.dr : drP (bodyOf Tryz.f144) := drP_of (by kernel_rfl)
theorem slices_Clone_uint32_uint32.call : callable Tryz.prog 144 = true := by kernel_rfl
theorem math_bits_Len32.ok : FnOK Tryz.prog 145 19 (bodyOf Tryz.f145) [.tmp 2] := ⟨mix, Tryz.f145, Tryz.func145, rfl, rfl, rfl⟩
theorem math_bits_Len32.dr : drP (bodyOf Tryz.f145) := drP_of (by kernel_rfl)
theorem math_bits_Len32.call : callable Tryz.prog 145 = true := by kernel_rfl
theorem whole_Sub.ok : FnOK Tryz.prog 146 13 (bodyOf Tryz.f146) [.cell 4 25] := ⟨mix, Tryz.f146, Tryz.func146, rfl, rfl, rfl⟩
theorem whole_Sub.dr : drP (bodyOf Tryz.f146) := drP_of (by kernel_rfl)
theorem whole_Sub.call : callable Tryz.prog 146 = true := by kernel_rfl
theorem nat_held.ok : FnOK Tryz.prog 147 6 (bodyOf Tryz.f147) [.tmp 2] := ⟨mix, Tryz.f147, Tryz.func147, rfl, rfl, rfl⟩
theorem nat_held.dr : drP (bodyOf Tryz.f147) := drP_of (by kernel_rfl)
theorem nat_held.call : callable Tryz.prog 147 = true := by kernel_rfl
theorem nat_short.ok : FnOK Tryz.prog 148 45 (bodyOf Tryz.f148) [.tmp 4, .tmp 5] := ⟨mix, Tryz.f148, Tryz.func148, rfl, rfl, rfl⟩
theorem nat_short.dr : drP (bodyOf Tryz.f148) := drP_of (by kernel_rfl)
theorem nat_short.call : callable Tryz.prog 148 = true := by kernel_rfl
theorem math_bits_LeadingZeros32.ok : FnOK Tryz.prog 149 6 (bodyOf Tryz.f149) [.tmp 2] := ⟨mix, Tryz.f149, Tryz.func149, rfl, rfl, rfl⟩
theorem math_bits_LeadingZeros32.dr : drP (bodyOf Tryz.f149) := drP_of (by kernel_rfl)
theorem math_bits_LeadingZeros32.call : callable Tryz.prog 149 = true := by kernel_rfl
theorem nat_step.ok : FnOK Tryz.prog 150 164 (bodyOf Tryz.f150) [.tmp 4] := ⟨mix, Tryz.f150, Tryz.func150, rfl, rfl, rfl⟩
theorem nat_step.dr : drP (bodyOf Tryz.f150) := drP_of (by kernel_rfl)
theorem nat_step.call : callable Tryz.prog 150 = true := by kernel_rfl
noncomputable def CT : Ctx := ⟨Tryz.prog, fun g => if g = 0 then some tab32 else none⟩
theorem CT_P : CT.P = Tryz.prog := rfl
theorem x_glob0 {l : List (Nat × AV)} : evalA CT.G l (.global 0) = .dp (tab32.map .v) 0 := rfl
attribute [go_sem] bodyOf aW1 x_skip x_label x_tree x_runN x_runT x_runC x_linsE x_getA0 x_getAs x_seq x_block x_exit x_goto x_ret x_then1 x_then2 x_then3 x_then4 x_blk1 x_blk2 x_blk3 x_blk4 x_region x_cond x_cond_dec x_cond_true x_cond_false x_CX x_RK x_GX x_GY x_nil x_plain x_guard x_guard_tt x_guard_ff x_guard_tf x_guard_ft x_guard_dt x_guard_un x_guard_df x_dst x_dst0 x_put x_put0 x_tmp x_const x_fnc x_look x_out1 x_out x_move x_assign x_pick x_pick_tt x_pick_ff x_pick_d x_alloc allocO x_box boxO cellsA x_build buildO fillA x_buildSlice buildSliceO x_load loadO x_loadF1 x_loadF0 x_store storeO x_nilCheck nilO x_binOp x_binOpI x_binOpB x_eqNil eqNilK x_add x_sub x_mul x_quo x_rem x_and x_or x_xor x_andNot x_shl x_shr x_eql x_neq x_lss x_leq x_gtr x_geq x_eqb x_neb x_unOp x_not x_notb x_neg x_convert convO x_make makeO x_slice sliceO x_bound0 x_bound1 boundV x_fieldAddr faddrO x_indexAddr iaddrO x_extract extractO x_field fieldO x_len lenO x_max x_min x_maxO x_minO x_append x_call gslot initSlots Ret retF resF CT_P List.getElem?_toArray List.getElem?_cons_zero List.getElem?_cons_succ Option.bind_some List.map_cons List.map_nil List.length_cons List.length_nil true_and and_true forall_const hd List.getD_cons_zero List.getD_cons_succ List.set_cons_zero List.set_cons_succ List.nil_append List.cons_append U32 decide_true decide_false gt_iff_lt ge_iff_le Nat.zero_add Nat.add_zero Nat.mul_one Nat.sub_zero List.drop_zero Int.toNat_natCast Int.toNat_zero Nat.zero_mul appF newsF zeros_u32s dead Int.le_refl Nat.le_refl List.replicate_zero snap_sl snap_own snap_int snap_bool snap_nil snap_agg snap_tup snap1_sl snap1_own snap1_int snap1_bool snap1_nil ownOK own1 List.mem_cons List.not_mem_nil or_false forall_eq_or_imp forall_eq snap0_u32s List.length_map length_u32s not_true_eq_false not_false_eq_true false_implies implies_true ne_eq Int.natCast_zero fzH fzArgs fzCells fz leaf_u32s take_u32s drop_u32s append_u32s List.take_zero List.take_length isD_u32 IntKind.bits x_m32 Bool.not_false Bool.not_true x_draw isD_v isD_nil isD_tup x_m63 x_m1 x_m1' x_rep1 x_rep2 x_fill1 x_fill2 x_fill2' List.length_replicate Nat.lt_irrefl or_self false_or
attribute [go_sem] tk2 tk3 tk4 tk5 tk6 tk7 tk8 tk12 tk21 tk22 tk23 tk24 tk25 tk26 tk27 tk28 tk29 tk30 tk31 tk47 tk48 tk84 tk85 tk86 tk89 tk90 tk93 tk115 tk124 tk125 tk126 tk128 tk129 tk132 tk133 fd7_0 fd7_1 fd7_2 fd7_3 fd8_0 fd8_1 fd8_2 fd8_3 fd24_0 fd24_1 fd25_0 fd25_1 fd26_0 fd26_1 fd27_0 fd27_1 fd28_0 fd28_1 fd29_0 fd29_1 fd30_0 fd30_1 fd31_0 fd31_1 fd125_0 fd126_0
end Go.Ab

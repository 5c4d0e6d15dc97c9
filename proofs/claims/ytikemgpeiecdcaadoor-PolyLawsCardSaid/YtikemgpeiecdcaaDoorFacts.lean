/- The facts of this seat's functions and types that the walks use: by program, out of the translation. -/
import Derived.Test.YtikemgpeiecdcaaDoorA3
import Derived.Test.YtikemgpeiecdcaaDoorProg
set_option linter.unusedVariables false
namespace Go.Ab
open Go.Proofs
theorem mix : Tryd.prog.follows .mixedOrders = true := by kernel_rfl
theorem tk2 : tk Tryd.prog 2 = some ⟨false, 1, 8, [.int .i64 0], .int .i64⟩ := by kernel_rfl
theorem tk3 : tk Tryd.prog 3 = some ⟨false, 1, 8, [.int .i64 0], .int .i64⟩ := by kernel_rfl
theorem tk4 : tk Tryd.prog 4 = some ⟨false, 1, 1, [.bool false], .bool⟩ := by kernel_rfl
theorem tk5 : tk Tryd.prog 5 = some ⟨false, 1, 1, [.int .u8 0], .int .u8⟩ := by kernel_rfl
theorem tk6 : tk Tryd.prog 6 = some ⟨false, 1, 1, [.int .u8 0], .int .u8⟩ := by kernel_rfl
theorem tk7 : tk Tryd.prog 7 = some ⟨true, 4, 24, [.int .i64 0, .int .i64 0, .bool false, .int .u8 0], .st [(0, 1), (1, 1), (2, 1), (3, 1)]⟩ := by kernel_rfl
theorem tk8 : tk Tryd.prog 8 = some ⟨true, 4, 24, [.int .i64 0, .int .i64 0, .bool false, .int .u8 0], .st [(0, 1), (1, 1), (2, 1), (3, 1)]⟩ := by kernel_rfl
theorem tk12 : tk Tryd.prog 12 = some ⟨false, 1, 8, [.int .u64 0], .int .u64⟩ := by kernel_rfl
theorem tk21 : tk Tryd.prog 21 = some ⟨false, 1, 4, [.int .i32 0], .int .i32⟩ := by kernel_rfl
theorem tk22 : tk Tryd.prog 22 = some ⟨false, 1, 24, [.slice none 0 0], .sl 37⟩ := by kernel_rfl
theorem tk31 : tk Tryd.prog 31 = some ⟨false, 1, 24, [.slice none 0 0], .sl 82⟩ := by kernel_rfl
theorem tk32 : tk Tryd.prog 32 = some ⟨true, 2, 32, [.bool false, .slice none 0 0], .st [(0, 1), (1, 1)]⟩ := by kernel_rfl
theorem tk33 : tk Tryd.prog 33 = some ⟨true, 2, 32, [.bool false, .slice none 0 0], .st [(0, 1), (1, 1)]⟩ := by kernel_rfl
theorem tk34 : tk Tryd.prog 34 = some ⟨true, 3, 40, [.bool false, .slice none 0 0, .int .i64 0], .st [(0, 2), (2, 1)]⟩ := by kernel_rfl
theorem tk35 : tk Tryd.prog 35 = some ⟨true, 3, 40, [.bool false, .slice none 0 0, .int .i64 0], .st [(0, 2), (2, 1)]⟩ := by kernel_rfl
theorem tk36 : tk Tryd.prog 36 = some ⟨true, 6, 80, [.bool false, .slice none 0 0, .int .i64 0, .bool false, .slice none 0 0, .int .i64 0], .st [(0, 3), (3, 3)]⟩ := by kernel_rfl
theorem tk37 : tk Tryd.prog 37 = some ⟨true, 6, 80, [.bool false, .slice none 0 0, .int .i64 0, .bool false, .slice none 0 0, .int .i64 0], .st [(0, 3), (3, 3)]⟩ := by kernel_rfl
theorem tk51 : tk Tryd.prog 51 = some ⟨false, 1, 24, [.slice none 0 0], .sl 2⟩ := by kernel_rfl
theorem tk53 : tk Tryd.prog 53 = some ⟨false, 1, 1, [.int .i8 0], .int .i8⟩ := by kernel_rfl
theorem tk57 : tk Tryd.prog 57 = some ⟨true, 2, 48, [.slice none 0 0, .slice none 0 0], .arr 2 22⟩ := by kernel_rfl
theorem tk81 : tk Tryd.prog 81 = some ⟨false, 1, 8, [.int .u64 0], .int .u64⟩ := by kernel_rfl
theorem tk82 : tk Tryd.prog 82 = some ⟨false, 1, 4, [.int .u32 0], .int .u32⟩ := by kernel_rfl
theorem tk83 : tk Tryd.prog 83 = some ⟨false, 1, 8, [.int .u64 0], .int .u64⟩ := by kernel_rfl
theorem tk89 : tk Tryd.prog 89 = some ⟨true, 32, 32, [.int .u8 0, .int .u8 0, .int .u8 0, .int .u8 0, .int .u8 0, .int .u8 0, .int .u8 0, .int .u8 0, .int .u8 0, .int .u8 0, .int .u8 0, .int .u8 0, .int .u8 0, .int .u8 0, .int .u8 0, .int .u8 0, .int .u8 0, .int .u8 0, .int .u8 0, .int .u8 0, .int .u8 0, .int .u8 0, .int .u8 0, .int .u8 0, .int .u8 0, .int .u8 0, .int .u8 0, .int .u8 0, .int .u8 0, .int .u8 0, .int .u8 0, .int .u8 0], .arr 32 5⟩ := by kernel_rfl
theorem tk90 : tk Tryd.prog 90 = some ⟨true, 4, 32, [.int .i64 0, .int .i64 0, .int .i64 0, .int .i64 0], .arr 4 3⟩ := by kernel_rfl
theorem tk94 : tk Tryd.prog 94 = some ⟨true, 0, 0, [], .arr 0 16⟩ := by kernel_rfl
theorem tk95 : tk Tryd.prog 95 = some ⟨true, 0, 0, [], .st [(0, 0)]⟩ := by kernel_rfl
theorem tk96 : tk Tryd.prog 96 = some ⟨true, 0, 0, [], .st [(0, 0)]⟩ := by kernel_rfl
theorem tk98 : tk Tryd.prog 98 = some ⟨false, 1, 1, [.int .u8 0], .int .u8⟩ := by kernel_rfl
theorem tk99 : tk Tryd.prog 99 = some ⟨false, 1, 1, [.int .u8 0], .int .u8⟩ := by kernel_rfl
theorem tk102 : tk Tryd.prog 102 = some ⟨false, 1, 4, [.int .i32 0], .int .i32⟩ := by kernel_rfl
theorem tk103 : tk Tryd.prog 103 = some ⟨false, 1, 4, [.int .i32 0], .int .i32⟩ := by kernel_rfl
theorem fd7_0 : fdOf Tryd.prog 7 0 = some (0, 2) := by kernel_rfl
theorem fd7_1 : fdOf Tryd.prog 7 1 = some (1, 3) := by kernel_rfl
theorem fd7_2 : fdOf Tryd.prog 7 2 = some (2, 4) := by kernel_rfl
theorem fd7_3 : fdOf Tryd.prog 7 3 = some (3, 6) := by kernel_rfl
theorem fd8_0 : fdOf Tryd.prog 8 0 = some (0, 2) := by kernel_rfl
theorem fd8_1 : fdOf Tryd.prog 8 1 = some (1, 3) := by kernel_rfl
theorem fd8_2 : fdOf Tryd.prog 8 2 = some (2, 4) := by kernel_rfl
theorem fd8_3 : fdOf Tryd.prog 8 3 = some (3, 6) := by kernel_rfl
theorem fd32_0 : fdOf Tryd.prog 32 0 = some (0, 4) := by kernel_rfl
theorem fd32_1 : fdOf Tryd.prog 32 1 = some (1, 31) := by kernel_rfl
theorem fd33_0 : fdOf Tryd.prog 33 0 = some (0, 4) := by kernel_rfl
theorem fd33_1 : fdOf Tryd.prog 33 1 = some (1, 31) := by kernel_rfl
theorem fd34_0 : fdOf Tryd.prog 34 0 = some (0, 33) := by kernel_rfl
theorem fd34_1 : fdOf Tryd.prog 34 1 = some (2, 3) := by kernel_rfl
theorem fd35_0 : fdOf Tryd.prog 35 0 = some (0, 33) := by kernel_rfl
theorem fd35_1 : fdOf Tryd.prog 35 1 = some (2, 3) := by kernel_rfl
theorem fd36_0 : fdOf Tryd.prog 36 0 = some (0, 35) := by kernel_rfl
theorem fd36_1 : fdOf Tryd.prog 36 1 = some (3, 35) := by kernel_rfl
theorem fd37_0 : fdOf Tryd.prog 37 0 = some (0, 35) := by kernel_rfl
theorem fd37_1 : fdOf Tryd.prog 37 1 = some (3, 35) := by kernel_rfl
theorem fd95_0 : fdOf Tryd.prog 95 0 = some (0, 94) := by kernel_rfl
theorem fd96_0 : fdOf Tryd.prog 96 0 = some (0, 94) := by kernel_rfl
theorem annuluslaw13_GraeffeTells.ok : FnOK Tryd.prog 3 70 (bodyOf Tryd.f3) [.tmp 4] := ⟨mix, Tryd.f3, Tryd.func3, rfl, rfl, rfl⟩
theorem annuluslaw13_GraeffeTells.dr : drP (bodyOf Tryd.f3) := drP_of (by kernel_rfl)
theorem annuluslaw13_GraeffeTells.call : callable Tryd.prog 3 = true := by kernel_rfl
theorem annuluslaw13_GraeffeRoots.ok : FnOK Tryd.prog 4 55 (bodyOf Tryd.f4) [.tmp 4] := ⟨mix, Tryd.f4, Tryd.func4, rfl, rfl, rfl⟩
theorem annuluslaw13_GraeffeRoots.dr : drP (bodyOf Tryd.f4) := drP_of (by kernel_rfl)
theorem annuluslaw13_GraeffeRoots.call : callable Tryd.prog 4 = true := by kernel_rfl
theorem annuluslaw13_GraeffeValues.ok : FnOK Tryd.prog 5 86 (bodyOf Tryd.f5) [.tmp 4] := ⟨mix, Tryd.f5, Tryd.func5, rfl, rfl, rfl⟩
theorem annuluslaw13_GraeffeValues.dr : drP (bodyOf Tryd.f5) := drP_of (by kernel_rfl)
theorem annuluslaw13_GraeffeValues.call : callable Tryd.prog 5 = true := by kernel_rfl
theorem annuluslaw13_GraeffeProducts.ok : FnOK Tryd.prog 6 50 (bodyOf Tryd.f6) [.tmp 4] := ⟨mix, Tryd.f6, Tryd.func6, rfl, rfl, rfl⟩
theorem annuluslaw13_GraeffeProducts.dr : drP (bodyOf Tryd.f6) := drP_of (by kernel_rfl)
theorem annuluslaw13_GraeffeProducts.call : callable Tryd.prog 6 = true := by kernel_rfl
theorem annuluslaw13_GraeffeTops.ok : FnOK Tryd.prog 7 69 (bodyOf Tryd.f7) [.tmp 2] := ⟨mix, Tryd.f7, Tryd.func7, rfl, rfl, rfl⟩
theorem annuluslaw13_GraeffeTops.dr : drPx 8 [[0, 1, 2, 3, 4, 6, 7, 8, 9, 10, 5, 11, 12, 13, 14, 15], [0, 1, 2, 3, 4, 6, 7, 8, 9, 10, 5, 11, 13, 12, 14, 15], [0, 1, 2, 3, 4, 6, 7, 8, 9, 10, 5, 12, 11, 13, 14, 15], [0, 1, 2, 3, 4, 6, 7, 8, 9, 10, 5, 12, 13, 11, 14, 15], [0, 1, 2, 3, 4, 6, 7, 8, 9, 10, 5, 12, 13, 14, 11, 15], [0, 1, 2, 3, 4, 6, 7, 8, 9, 10, 5, 13, 11, 12, 14, 15], [0, 1, 2, 3, 4, 6, 7, 8, 9, 10, 5, 13, 12, 11, 14, 15], [0, 1, 2, 3, 4, 6, 7, 8, 9, 10, 5, 13, 12, 14, 11, 15], [0, 1, 2, 3, 4, 6, 7, 8, 9, 10, 11, 5, 12, 13, 14, 15], [0, 1, 2, 3, 4, 6, 7, 8, 9, 10, 11, 5, 13, 12, 14, 15], [0, 1, 2, 3, 4, 6, 7, 8, 9, 10, 11, 12, 5, 13, 14, 15], [0, 1, 2, 3, 4, 6, 7, 8, 9, 10, 11, 12, 13, 5, 14, 15], [0, 1, 2, 3, 4, 6, 7, 8, 9, 10, 11, 13, 5, 12, 14, 15], [0, 1, 2, 3, 4, 6, 7, 8, 9, 10, 11, 13, 12, 5, 14, 15], [0, 1, 2, 3, 4, 6, 7, 8, 9, 10, 12, 5, 11, 13, 14, 15], [0, 1, 2, 3, 4, 6, 7, 8, 9, 10, 12, 5, 13, 11, 14, 15], [0, 1, 2, 3, 4, 6, 7, 8, 9, 10, 12, 5, 13, 14, 11, 15], [0, 1, 2, 3, 4, 6, 7, 8, 9, 10, 12, 11, 5, 13, 14, 15], [0, 1, 2, 3, 4, 6, 7, 8, 9, 10, 12, 11, 13, 5, 14, 15], [0, 1, 2, 3, 4, 6, 7, 8, 9, 10, 12, 13, 5, 11, 14, 15], [0, 1, 2, 3, 4, 6, 7, 8, 9, 10, 12, 13, 5, 14, 11, 15], [0, 1, 2, 3, 4, 6, 7, 8, 9, 10, 12, 13, 11, 5, 14, 15], [0, 1, 2, 3, 4, 6, 7, 8, 9, 10, 13, 5, 11, 12, 14, 15], [0, 1, 2, 3, 4, 6, 7, 8, 9, 10, 13, 5, 12, 11, 14, 15], [0, 1, 2, 3, 4, 6, 7, 8, 9, 10, 13, 5, 12, 14, 11, 15], [0, 1, 2, 3, 4, 6, 7, 8, 9, 10, 13, 11, 5, 12, 14, 15], [0, 1, 2, 3, 4, 6, 7, 8, 9, 10, 13, 11, 12, 5, 14, 15], [0, 1, 2, 3, 4, 6, 7, 8, 9, 10, 13, 12, 5, 11, 14, 15], [0, 1, 2, 3, 4, 6, 7, 8, 9, 10, 13, 12, 5, 14, 11, 15], [0, 1, 2, 3, 4, 6, 7, 8, 9, 10, 13, 12, 11, 5, 14, 15]] (bodyOf Tryd.f7) := drPx_of (by kernel_rfl)
theorem annuluslaw13_GraeffeTops.call : callable Tryd.prog 7 = true := by kernel_rfl
theorem annuluslaw11_PolyRoots.ok : FnOK Tryd.prog 8 101 (bodyOf Tryd.f8) [.tmp 4] := ⟨mix, Tryd.f8, Tryd.func8, rfl, rfl, rfl⟩
theorem annuluslaw11_PolyRoots.dr : drP (bodyOf Tryd.f8) := drP_of (by kernel_rfl)
theorem annuluslaw11_PolyRoots.call : callable Tryd.prog 8 = true := by kernel_rfl
theorem annuluslaw11_PolyShifts.ok : FnOK Tryd.prog 9 67 (bodyOf Tryd.f9) [.tmp 4] := ⟨mix, Tryd.f9, Tryd.func9, rfl, rfl, rfl⟩
theorem annuluslaw11_PolyShifts.dr : drP (bodyOf Tryd.f9) := drP_of (by kernel_rfl)
theorem annuluslaw11_PolyShifts.call : callable Tryd.prog 9 = true := by kernel_rfl
theorem annuluslaw11_PolyDegrees.ok : FnOK Tryd.prog 10 88 (bodyOf Tryd.f10) [.tmp 4] := ⟨mix, Tryd.f10, Tryd.func10, rfl, rfl, rfl⟩
theorem annuluslaw11_PolyDegrees.dr : drP (bodyOf Tryd.f10) := drP_of (by kernel_rfl)
theorem annuluslaw11_PolyDegrees.call : callable Tryd.prog 10 = true := by kernel_rfl
theorem annuluslaw11_PolyLaws.ok : FnOK Tryd.prog 11 129 (bodyOf Tryd.f11) [.tmp 10] := ⟨mix, Tryd.f11, Tryd.func11, rfl, rfl, rfl⟩
theorem annuluslaw11_PolyLaws.dr : drP (bodyOf Tryd.f11) := drP_of (by kernel_rfl)
theorem annuluslaw11_PolyLaws.call : callable Tryd.prog 11 = true := by kernel_rfl
theorem annuluslaw13_known.ok : FnOK Tryd.prog 12 47 (bodyOf Tryd.f12) [.tmp 0] := ⟨mix, Tryd.f12, Tryd.func12, rfl, rfl, rfl⟩
theorem annuluslaw13_known.dr : drP (bodyOf Tryd.f12) := drP_of (by kernel_rfl)
theorem annuluslaw13_known.call : callable Tryd.prog 12 = true := by kernel_rfl
theorem annuluslaw13_few.ok : FnOK Tryd.prog 13 29 (bodyOf Tryd.f13) [.tmp 2] := ⟨mix, Tryd.f13, Tryd.func13, rfl, rfl, rfl⟩
theorem annuluslaw13_few.dr : drP (bodyOf Tryd.f13) := drP_of (by kernel_rfl)
theorem annuluslaw13_few.call : callable Tryd.prog 13 = true := by kernel_rfl
theorem annulusref11_Trim.ok : FnOK Tryd.prog 14 35 (bodyOf Tryd.f14) [.tmp 2] := ⟨mix, Tryd.f14, Tryd.func14, rfl, rfl, rfl⟩
theorem annulusref11_Trim.dr : drP (bodyOf Tryd.f14) := drP_of (by kernel_rfl)
theorem annulusref11_Trim.call : callable Tryd.prog 14 = true := by kernel_rfl
theorem graeffe_Split.ok : FnOK Tryd.prog 15 32 (bodyOf Tryd.f15) [.tmp 2, .tmp 3] := ⟨mix, Tryd.f15, Tryd.func15, rfl, rfl, rfl⟩
theorem graeffe_Split.dr : drPx 5 [[0, 1, 2, 3, 4, 5, 6, 7, 8, 9, 10], [0, 1, 2, 3, 4, 6, 5, 7, 8, 9, 10], [0, 1, 2, 3, 4, 6, 7, 5, 8, 9, 10]] (bodyOf Tryd.f15) := drPx_of (by kernel_rfl)
theorem graeffe_Split.call : callable Tryd.prog 15 = true := by kernel_rfl
theorem annulusref11_Split.ok : FnOK Tryd.prog 16 34 (bodyOf Tryd.f16) [.tmp 2, .tmp 3] := ⟨mix, Tryd.f16, Tryd.func16, rfl, rfl, rfl⟩
theorem annulusref11_Split.dr : drP (bodyOf Tryd.f16) := drP_of (by kernel_rfl)
theorem annulusref11_Split.call : callable Tryd.prog 16 = true := by kernel_rfl
theorem annulusref11_Step.ok : FnOK Tryd.prog 17 30 (bodyOf Tryd.f17) [.tmp 2] := ⟨mix, Tryd.f17, Tryd.func17, rfl, rfl, rfl⟩
theorem annulusref11_Step.dr : drP (bodyOf Tryd.f17) := drP_of (by kernel_rfl)
theorem annulusref11_Step.call : callable Tryd.prog 17 = true := by kernel_rfl
theorem annulusref11_Equal.ok : FnOK Tryd.prog 18 27 (bodyOf Tryd.f18) [.tmp 4] := ⟨mix, Tryd.f18, Tryd.func18, rfl, rfl, rfl⟩
theorem annulusref11_Equal.dr : drP (bodyOf Tryd.f18) := drP_of (by kernel_rfl)
theorem annulusref11_Equal.call : callable Tryd.prog 18 = true := by kernel_rfl
theorem graeffe_Step.ok : FnOK Tryd.prog 19 30 (bodyOf Tryd.f19) [.tmp 2] := ⟨mix, Tryd.f19, Tryd.func19, rfl, rfl, rfl⟩
theorem graeffe_Step.dr : drP (bodyOf Tryd.f19) := drP_of (by kernel_rfl)
theorem graeffe_Step.call : callable Tryd.prog 19 = true := by kernel_rfl
theorem graeffe_Steps.ok : FnOK Tryd.prog 20 17 (bodyOf Tryd.f20) [.tmp 4] := ⟨mix, Tryd.f20, Tryd.func20, rfl, rfl, rfl⟩
theorem graeffe_Steps.dr : drP (bodyOf Tryd.f20) := drP_of (by kernel_rfl)
theorem graeffe_Steps.call : callable Tryd.prog 20 = true := by kernel_rfl
theorem graeffe_Mirror.ok : FnOK Tryd.prog 21 25 (bodyOf Tryd.f21) [.tmp 2] := ⟨mix, Tryd.f21, Tryd.func21, rfl, rfl, rfl⟩
theorem graeffe_Mirror.dr : drP (bodyOf Tryd.f21) := drP_of (by kernel_rfl)
theorem graeffe_Mirror.call : callable Tryd.prog 21 = true := by kernel_rfl
theorem annulusref11_Mirror.ok : FnOK Tryd.prog 22 30 (bodyOf Tryd.f22) [.tmp 2] := ⟨mix, Tryd.f22, Tryd.func22, rfl, rfl, rfl⟩
theorem annulusref11_Mirror.dr : drP (bodyOf Tryd.f22) := drP_of (by kernel_rfl)
theorem annulusref11_Mirror.call : callable Tryd.prog 22 = true := by kernel_rfl
theorem annulusref8_Cplx.ok : FnOK Tryd.prog 23 10 (bodyOf Tryd.f23) [.cell 2 37] := ⟨mix, Tryd.f23, Tryd.func23, rfl, rfl, rfl⟩
theorem annulusref8_Cplx.dr : drP (bodyOf Tryd.f23) := drP_of (by kernel_rfl)
theorem annulusref8_Cplx.call : callable Tryd.prog 23 = true := by kernel_rfl
theorem annulusref8_Mul.ok : FnOK Tryd.prog 24 28 (bodyOf Tryd.f24) [.cell 4 37] := ⟨mix, Tryd.f24, Tryd.func24, rfl, rfl, rfl⟩
theorem annulusref8_Mul.dr : drP (bodyOf Tryd.f24) := drP_of (by kernel_rfl)
theorem annulusref8_Mul.call : callable Tryd.prog 24 = true := by kernel_rfl
theorem annulusref11_From.ok : FnOK Tryd.prog 25 24 (bodyOf Tryd.f25) [.tmp 2] := ⟨mix, Tryd.f25, Tryd.func25, rfl, rfl, rfl⟩
theorem annulusref11_From.dr : drP (bodyOf Tryd.f25) := drP_of (by kernel_rfl)
theorem annulusref11_From.call : callable Tryd.prog 25 = true := by kernel_rfl
theorem annuluslaw13_point.ok : FnOK Tryd.prog 26 11 (bodyOf Tryd.f26) [.tmp 2] := ⟨mix, Tryd.f26, Tryd.func26, rfl, rfl, rfl⟩
theorem annuluslaw13_point.dr : drP (bodyOf Tryd.f26) := drP_of (by kernel_rfl)
theorem annuluslaw13_point.call : callable Tryd.prog 26 = true := by kernel_rfl
theorem annulusref11_At.ok : FnOK Tryd.prog 27 24 (bodyOf Tryd.f27) [.cell 4 37] := ⟨mix, Tryd.f27, Tryd.func27, rfl, rfl, rfl⟩
theorem annulusref11_At.dr : drP (bodyOf Tryd.f27) := drP_of (by kernel_rfl)
theorem annulusref11_At.call : callable Tryd.prog 27 = true := by kernel_rfl
theorem annulusref8_Neg.ok : FnOK Tryd.prog 28 10 (bodyOf Tryd.f28) [.cell 2 37] := ⟨mix, Tryd.f28, Tryd.func28, rfl, rfl, rfl⟩
theorem annulusref8_Neg.dr : drP (bodyOf Tryd.f28) := drP_of (by kernel_rfl)
theorem annulusref8_Neg.call : callable Tryd.prog 28 = true := by kernel_rfl
theorem annulusref8_Add.ok : FnOK Tryd.prog 29 16 (bodyOf Tryd.f29) [.cell 4 37] := ⟨mix, Tryd.f29, Tryd.func29, rfl, rfl, rfl⟩
theorem annulusref8_Add.dr : drP (bodyOf Tryd.f29) := drP_of (by kernel_rfl)
theorem annulusref8_Add.call : callable Tryd.prog 29 = true := by kernel_rfl
theorem annulusref8_Equal.ok : FnOK Tryd.prog 30 17 (bodyOf Tryd.f30) [.tmp 4] := ⟨mix, Tryd.f30, Tryd.func30, rfl, rfl, rfl⟩
theorem annulusref8_Equal.dr : drP (bodyOf Tryd.f30) := drP_of (by kernel_rfl)
theorem annulusref8_Equal.call : callable Tryd.prog 30 = true := by kernel_rfl
theorem annulusref11_Mul.ok : FnOK Tryd.prog 31 58 (bodyOf Tryd.f31) [.tmp 4] := ⟨mix, Tryd.f31, Tryd.func31, rfl, rfl, rfl⟩
theorem annulusref11_Mul.dr : drP (bodyOf Tryd.f31) := drP_of (by kernel_rfl)
theorem annulusref11_Mul.call : callable Tryd.prog 31 = true := by kernel_rfl
theorem annuluslaw11_known.ok : FnOK Tryd.prog 32 65 (bodyOf Tryd.f32) [.tmp 0] := ⟨mix, Tryd.f32, Tryd.func32, rfl, rfl, rfl⟩
theorem annuluslaw11_known.dr : drP (bodyOf Tryd.f32) := drP_of (by kernel_rfl)
theorem annuluslaw11_known.call : callable Tryd.prog 32 = true := by kernel_rfl
theorem annuluslaw11_few.ok : FnOK Tryd.prog 33 29 (bodyOf Tryd.f33) [.tmp 2] := ⟨mix, Tryd.f33, Tryd.func33, rfl, rfl, rfl⟩
theorem annuluslaw11_few.dr : drP (bodyOf Tryd.f33) := drP_of (by kernel_rfl)
theorem annuluslaw11_few.call : callable Tryd.prog 33 = true := by kernel_rfl
theorem annuluslaw11_point.ok : FnOK Tryd.prog 34 11 (bodyOf Tryd.f34) [.tmp 2] := ⟨mix, Tryd.f34, Tryd.func34, rfl, rfl, rfl⟩
theorem annuluslaw11_point.dr : drP (bodyOf Tryd.f34) := drP_of (by kernel_rfl)
theorem annuluslaw11_point.call : callable Tryd.prog 34 = true := by kernel_rfl
theorem poly_From.ok : FnOK Tryd.prog 35 22 (bodyOf Tryd.f35) [.tmp 2] := ⟨mix, Tryd.f35, Tryd.func35, rfl, rfl, rfl⟩
theorem poly_From.dr : drP (bodyOf Tryd.f35) := drP_of (by kernel_rfl)
theorem poly_From.call : callable Tryd.prog 35 = true := by kernel_rfl
theorem poly_Degree.ok : FnOK Tryd.prog 36 7 (bodyOf Tryd.f36) [.tmp 2] := ⟨mix, Tryd.f36, Tryd.func36, rfl, rfl, rfl⟩
theorem poly_Degree.dr : drP (bodyOf Tryd.f36) := drP_of (by kernel_rfl)
theorem poly_Degree.call : callable Tryd.prog 36 = true := by kernel_rfl
theorem annulusref8_Of.ok : FnOK Tryd.prog 37 10 (bodyOf Tryd.f37) [.cell 4 37] := ⟨mix, Tryd.f37, Tryd.func37, rfl, rfl, rfl⟩
theorem annulusref8_Of.dr : drP (bodyOf Tryd.f37) := drP_of (by kernel_rfl)
theorem annulusref8_Of.call : callable Tryd.prog 37 = true := by kernel_rfl
theorem annulusref8_Zero.ok : FnOK Tryd.prog 38 13 (bodyOf Tryd.f38) [.tmp 2] := ⟨mix, Tryd.f38, Tryd.func38, rfl, rfl, rfl⟩
theorem annulusref8_Zero.dr : drP (bodyOf Tryd.f38) := drP_of (by kernel_rfl)
theorem annulusref8_Zero.call : callable Tryd.prog 38 = true := by kernel_rfl
theorem poly_At.ok : FnOK Tryd.prog 39 23 (bodyOf Tryd.f39) [.cell 4 37] := ⟨mix, Tryd.f39, Tryd.func39, rfl, rfl, rfl⟩
theorem poly_At.dr : drP (bodyOf Tryd.f39) := drP_of (by kernel_rfl)
theorem poly_At.call : callable Tryd.prog 39 = true := by kernel_rfl
theorem poly_Part.ok : FnOK Tryd.prog 40 34 (bodyOf Tryd.f40) [.tmp 4, .cell 5 37] := ⟨mix, Tryd.f40, Tryd.func40, rfl, rfl, rfl⟩
theorem poly_Part.dr : drP (bodyOf Tryd.f40) := drP_of (by kernel_rfl)
theorem poly_Part.call : callable Tryd.prog 40 = true := by kernel_rfl
theorem annulusref8_Sub.ok : FnOK Tryd.prog 41 9 (bodyOf Tryd.f41) [.cell 4 37] := ⟨mix, Tryd.f41, Tryd.func41, rfl, rfl, rfl⟩
theorem annulusref8_Sub.dr : drP (bodyOf Tryd.f41) := drP_of (by kernel_rfl)
theorem annulusref8_Sub.call : callable Tryd.prog 41 = true := by kernel_rfl
theorem poly_Same.ok : FnOK Tryd.prog 42 10 (bodyOf Tryd.f42) [.tmp 4] := ⟨mix, Tryd.f42, Tryd.func42, rfl, rfl, rfl⟩
theorem poly_Same.dr : drP (bodyOf Tryd.f42) := drP_of (by kernel_rfl)
theorem poly_Same.call : callable Tryd.prog 42 = true := by kernel_rfl
theorem annuluslaw11_of.ok : FnOK Tryd.prog 43 20 (bodyOf Tryd.f43) [.tmp 2] := ⟨mix, Tryd.f43, Tryd.func43, rfl, rfl, rfl⟩
theorem annuluslaw11_of.dr : drP (bodyOf Tryd.f43) := drP_of (by kernel_rfl)
theorem annuluslaw11_of.call : callable Tryd.prog 43 = true := by kernel_rfl
theorem poly_Shift.ok : FnOK Tryd.prog 44 27 (bodyOf Tryd.f44) [.tmp 4] := ⟨mix, Tryd.f44, Tryd.func44, rfl, rfl, rfl⟩
theorem poly_Shift.dr : drP (bodyOf Tryd.f44) := drP_of (by kernel_rfl)
theorem poly_Shift.call : callable Tryd.prog 44 = true := by kernel_rfl
theorem poly_Mul.ok : FnOK Tryd.prog 45 49 (bodyOf Tryd.f45) [.tmp 4] := ⟨mix, Tryd.f45, Tryd.func45, rfl, rfl, rfl⟩
theorem poly_Mul.dr : drP (bodyOf Tryd.f45) := drP_of (by kernel_rfl)
theorem poly_Mul.call : callable Tryd.prog 45 = true := by kernel_rfl
theorem poly_Add.ok : FnOK Tryd.prog 46 31 (bodyOf Tryd.f46) [.tmp 4] := ⟨mix, Tryd.f46, Tryd.func46, rfl, rfl, rfl⟩
theorem poly_Add.dr : drP (bodyOf Tryd.f46) := drP_of (by kernel_rfl)
theorem poly_Add.call : callable Tryd.prog 46 = true := by kernel_rfl
theorem poly_Deriv.ok : FnOK Tryd.prog 47 25 (bodyOf Tryd.f47) [.tmp 2] := ⟨mix, Tryd.f47, Tryd.func47, rfl, rfl, rfl⟩
theorem poly_Deriv.dr : drP (bodyOf Tryd.f47) := drP_of (by kernel_rfl)
theorem poly_Deriv.call : callable Tryd.prog 47 = true := by kernel_rfl
theorem annulusref4_Scale.ok : FnOK Tryd.prog 48 18 (bodyOf Tryd.f48) [.cell 4 35] := ⟨mix, Tryd.f48, Tryd.func48, rfl, rfl, rfl⟩
theorem annulusref4_Scale.dr : drP (bodyOf Tryd.f48) := drP_of (by kernel_rfl)
theorem annulusref4_Scale.call : callable Tryd.prog 48 = true := by kernel_rfl
theorem poly_Scale.ok : FnOK Tryd.prog 49 48 (bodyOf Tryd.f49) [.tmp 4] := ⟨mix, Tryd.f49, Tryd.func49, rfl, rfl, rfl⟩
theorem poly_Scale.dr : drP (bodyOf Tryd.f49) := drP_of (by kernel_rfl)
theorem poly_Scale.call : callable Tryd.prog 49 = true := by kernel_rfl
theorem poly_Sub.ok : FnOK Tryd.prog 50 31 (bodyOf Tryd.f50) [.tmp 4] := ⟨mix, Tryd.f50, Tryd.func50, rfl, rfl, rfl⟩
theorem poly_Sub.dr : drP (bodyOf Tryd.f50) := drP_of (by kernel_rfl)
theorem poly_Sub.call : callable Tryd.prog 50 = true := by kernel_rfl
theorem annuluslaw13_small.ok : FnOK Tryd.prog 51 18 (bodyOf Tryd.f51) [.tmp 2] := ⟨mix, Tryd.f51, Tryd.func51, rfl, rfl, rfl⟩
theorem annuluslaw13_small.dr : drP (bodyOf Tryd.f51) := drP_of (by kernel_rfl)
theorem annuluslaw13_small.call : callable Tryd.prog 51 = true := by kernel_rfl
theorem poly_Trim.ok : FnOK Tryd.prog 52 35 (bodyOf Tryd.f52) [.tmp 2] := ⟨mix, Tryd.f52, Tryd.func52, rfl, rfl, rfl⟩
theorem poly_Trim.dr : drP (bodyOf Tryd.f52) := drP_of (by kernel_rfl)
theorem poly_Trim.call : callable Tryd.prog 52 = true := by kernel_rfl
theorem annulusref11_Add.ok : FnOK Tryd.prog 53 28 (bodyOf Tryd.f53) [.tmp 4] := ⟨mix, Tryd.f53, Tryd.func53, rfl, rfl, rfl⟩
theorem annulusref11_Add.dr : drP (bodyOf Tryd.f53) := drP_of (by kernel_rfl)
theorem annulusref11_Add.call : callable Tryd.prog 53 = true := by kernel_rfl
theorem annulusref11_Neg.ok : FnOK Tryd.prog 54 20 (bodyOf Tryd.f54) [.tmp 2] := ⟨mix, Tryd.f54, Tryd.func54, rfl, rfl, rfl⟩
theorem annulusref11_Neg.dr : drP (bodyOf Tryd.f54) := drP_of (by kernel_rfl)
theorem annulusref11_Neg.call : callable Tryd.prog 54 = true := by kernel_rfl
theorem gauss_Neg.ok : FnOK Tryd.prog 55 10 (bodyOf Tryd.f55) [.cell 2 37] := ⟨mix, Tryd.f55, Tryd.func55, rfl, rfl, rfl⟩
theorem gauss_Neg.dr : drP (bodyOf Tryd.f55) := drP_of (by kernel_rfl)
theorem gauss_Neg.call : callable Tryd.prog 55 = true := by kernel_rfl
theorem annulusref4_Exact.ok : FnOK Tryd.prog 56 8 (bodyOf Tryd.f56) [.cell 2 35] := ⟨mix, Tryd.f56, Tryd.func56, rfl, rfl, rfl⟩
theorem annulusref4_Exact.dr : drP (bodyOf Tryd.f56) := drP_of (by kernel_rfl)
theorem annulusref4_Exact.call : callable Tryd.prog 56 = true := by kernel_rfl
theorem annulusref4_Sub.ok : FnOK Tryd.prog 57 9 (bodyOf Tryd.f57) [.cell 4 35] := ⟨mix, Tryd.f57, Tryd.func57, rfl, rfl, rfl⟩
theorem annulusref4_Sub.dr : drP (bodyOf Tryd.f57) := drP_of (by kernel_rfl)
theorem annulusref4_Sub.call : callable Tryd.prog 57 = true := by kernel_rfl
theorem annulusref4_Mul.ok : FnOK Tryd.prog 58 16 (bodyOf Tryd.f58) [.cell 4 35] := ⟨mix, Tryd.f58, Tryd.func58, rfl, rfl, rfl⟩
theorem annulusref4_Mul.dr : drP (bodyOf Tryd.f58) := drP_of (by kernel_rfl)
theorem annulusref4_Mul.call : callable Tryd.prog 58 = true := by kernel_rfl
theorem annulusref4_Add.ok : FnOK Tryd.prog 59 38 (bodyOf Tryd.f59) [.cell 4 35] := ⟨mix, Tryd.f59, Tryd.func59, rfl, rfl, rfl⟩
theorem annulusref4_Add.dr : drP (bodyOf Tryd.f59) := drP_of (by kernel_rfl)
theorem annulusref4_Add.call : callable Tryd.prog 59 = true := by kernel_rfl
theorem annulusref4_Neg.ok : FnOK Tryd.prog 60 9 (bodyOf Tryd.f60) [.cell 2 35] := ⟨mix, Tryd.f60, Tryd.func60, rfl, rfl, rfl⟩
theorem annulusref4_Neg.dr : drP (bodyOf Tryd.f60) := drP_of (by kernel_rfl)
theorem annulusref4_Neg.call : callable Tryd.prog 60 = true := by kernel_rfl
theorem annulusref4_Equal.ok : FnOK Tryd.prog 61 17 (bodyOf Tryd.f61) [.tmp 4] := ⟨mix, Tryd.f61, Tryd.func61, rfl, rfl, rfl⟩
theorem annulusref4_Equal.dr : drP (bodyOf Tryd.f61) := drP_of (by kernel_rfl)
theorem annulusref4_Equal.call : callable Tryd.prog 61 = true := by kernel_rfl
theorem annuluslaw11_small.ok : FnOK Tryd.prog 62 18 (bodyOf Tryd.f62) [.tmp 2] := ⟨mix, Tryd.f62, Tryd.func62, rfl, rfl, rfl⟩
theorem annuluslaw11_small.dr : drP (bodyOf Tryd.f62) := drP_of (by kernel_rfl)
theorem annuluslaw11_small.call : callable Tryd.prog 62 = true := by kernel_rfl
theorem gauss_Of.ok : FnOK Tryd.prog 63 10 (bodyOf Tryd.f63) [.cell 4 37] := ⟨mix, Tryd.f63, Tryd.func63, rfl, rfl, rfl⟩
theorem gauss_Of.dr : drP (bodyOf Tryd.f63) := drP_of (by kernel_rfl)
theorem gauss_Of.call : callable Tryd.prog 63 = true := by kernel_rfl
theorem annulusref4_Of.ok : FnOK Tryd.prog 64 6 (bodyOf Tryd.f64) [.cell 2 35] := ⟨mix, Tryd.f64, Tryd.func64, rfl, rfl, rfl⟩
theorem annulusref4_Of.dr : drP (bodyOf Tryd.f64) := drP_of (by kernel_rfl)
theorem annulusref4_Of.call : callable Tryd.prog 64 = true := by kernel_rfl
theorem annulusref4_Sign.ok : FnOK Tryd.prog 65 6 (bodyOf Tryd.f65) [.tmp 2] := ⟨mix, Tryd.f65, Tryd.func65, rfl, rfl, rfl⟩
theorem annulusref4_Sign.dr : drP (bodyOf Tryd.f65) := drP_of (by kernel_rfl)
theorem annulusref4_Sign.call : callable Tryd.prog 65 = true := by kernel_rfl
theorem gauss_Add.ok : FnOK Tryd.prog 66 16 (bodyOf Tryd.f66) [.cell 4 37] := ⟨mix, Tryd.f66, Tryd.func66, rfl, rfl, rfl⟩
theorem gauss_Add.dr : drP (bodyOf Tryd.f66) := drP_of (by kernel_rfl)
theorem gauss_Add.call : callable Tryd.prog 66 = true := by kernel_rfl
theorem gauss_Mul.ok : FnOK Tryd.prog 67 28 (bodyOf Tryd.f67) [.cell 4 37] := ⟨mix, Tryd.f67, Tryd.func67, rfl, rfl, rfl⟩
theorem gauss_Mul.dr : drP (bodyOf Tryd.f67) := drP_of (by kernel_rfl)
theorem gauss_Mul.call : callable Tryd.prog 67 = true := by kernel_rfl
theorem poly_at.ok : FnOK Tryd.prog 68 14 (bodyOf Tryd.f68) [.cell 4 37] := ⟨mix, Tryd.f68, Tryd.func68, rfl, rfl, rfl⟩
theorem poly_at.dr : drP (bodyOf Tryd.f68) := drP_of (by kernel_rfl)
theorem poly_at.call : callable Tryd.prog 68 = true := by kernel_rfl
theorem gauss_Times.ok : FnOK Tryd.prog 69 14 (bodyOf Tryd.f69) [.cell 4 37] := ⟨mix, Tryd.f69, Tryd.func69, rfl, rfl, rfl⟩
theorem gauss_Times.dr : drP (bodyOf Tryd.f69) := drP_of (by kernel_rfl)
theorem gauss_Times.call : callable Tryd.prog 69 = true := by kernel_rfl
theorem dyad_Of.ok : FnOK Tryd.prog 70 6 (bodyOf Tryd.f70) [.cell 2 35] := ⟨mix, Tryd.f70, Tryd.func70, rfl, rfl, rfl⟩
theorem dyad_Of.dr : drP (bodyOf Tryd.f70) := drP_of (by kernel_rfl)
theorem dyad_Of.call : callable Tryd.prog 70 = true := by kernel_rfl
theorem dyad_Raw.ok : FnOK Tryd.prog 71 27 (bodyOf Tryd.f71) [.cell 4 35] := ⟨mix, Tryd.f71, Tryd.func71, rfl, rfl, rfl⟩
theorem dyad_Raw.dr : drP (bodyOf Tryd.f71) := drP_of (by kernel_rfl)
theorem dyad_Raw.call : callable Tryd.prog 71 = true := by kernel_rfl
theorem gauss_Sub.ok : FnOK Tryd.prog 72 16 (bodyOf Tryd.f72) [.cell 4 37] := ⟨mix, Tryd.f72, Tryd.func72, rfl, rfl, rfl⟩
theorem gauss_Sub.dr : drP (bodyOf Tryd.f72) := drP_of (by kernel_rfl)
theorem gauss_Sub.call : callable Tryd.prog 72 = true := by kernel_rfl
theorem gauss_Zero.ok : FnOK Tryd.prog 73 13 (bodyOf Tryd.f73) [.tmp 2] := ⟨mix, Tryd.f73, Tryd.func73, rfl, rfl, rfl⟩
theorem gauss_Zero.dr : drP (bodyOf Tryd.f73) := drP_of (by kernel_rfl)
theorem gauss_Zero.call : callable Tryd.prog 73 = true := by kernel_rfl
theorem gauss_Scale.ok : FnOK Tryd.prog 74 14 (bodyOf Tryd.f74) [.cell 4 37] := ⟨mix, Tryd.f74, Tryd.func74, rfl, rfl, rfl⟩
theorem gauss_Scale.dr : drP (bodyOf Tryd.f74) := drP_of (by kernel_rfl)
theorem gauss_Scale.call : callable Tryd.prog 74 = true := by kernel_rfl
theorem annulusref11_at.ok : FnOK Tryd.prog 75 14 (bodyOf Tryd.f75) [.cell 4 37] := ⟨mix, Tryd.f75, Tryd.func75, rfl, rfl, rfl⟩
theorem annulusref11_at.dr : drP (bodyOf Tryd.f75) := drP_of (by kernel_rfl)
theorem annulusref11_at.call : callable Tryd.prog 75 = true := by kernel_rfl
theorem dyad_Neg.ok : FnOK Tryd.prog 76 10 (bodyOf Tryd.f76) [.cell 2 35] := ⟨mix, Tryd.f76, Tryd.func76, rfl, rfl, rfl⟩
theorem dyad_Neg.dr : drP (bodyOf Tryd.f76) := drP_of (by kernel_rfl)
theorem dyad_Neg.call : callable Tryd.prog 76 = true := by kernel_rfl
theorem annulusref4_exact.ok : FnOK Tryd.prog 77 28 (bodyOf Tryd.f77) [.cell 4 35] := ⟨mix, Tryd.f77, Tryd.func77, rfl, rfl, rfl⟩
theorem annulusref4_exact.dr : drP (bodyOf Tryd.f77) := drP_of (by kernel_rfl)
theorem annulusref4_exact.call : callable Tryd.prog 77 = true := by kernel_rfl
theorem annulusref1_MulInt.ok : FnOK Tryd.prog 78 23 (bodyOf Tryd.f78) [.cell 4 33] := ⟨mix, Tryd.f78, Tryd.func78, rfl, rfl, rfl⟩
theorem annulusref1_MulInt.dr : drP (bodyOf Tryd.f78) := drP_of (by kernel_rfl)
theorem annulusref1_MulInt.call : callable Tryd.prog 78 = true := by kernel_rfl
theorem annulusref1_Sign.ok : FnOK Tryd.prog 79 14 (bodyOf Tryd.f79) [.tmp 2] := ⟨mix, Tryd.f79, Tryd.func79, rfl, rfl, rfl⟩
theorem annulusref1_Sign.dr : drP (bodyOf Tryd.f79) := drP_of (by kernel_rfl)
theorem annulusref1_Sign.call : callable Tryd.prog 79 = true := by kernel_rfl
theorem annulusref1_AddInt.ok : FnOK Tryd.prog 80 54 (bodyOf Tryd.f80) [.cell 4 33] := ⟨mix, Tryd.f80, Tryd.func80, rfl, rfl, rfl⟩
theorem annulusref1_AddInt.dr : drP (bodyOf Tryd.f80) := drP_of (by kernel_rfl)
theorem annulusref1_AddInt.call : callable Tryd.prog 80 = true := by kernel_rfl
theorem annulusref1_ShlInt.ok : FnOK Tryd.prog 81 14 (bodyOf Tryd.f81) [.cell 4 33] := ⟨mix, Tryd.f81, Tryd.func81, rfl, rfl, rfl⟩
theorem annulusref1_ShlInt.dr : drP (bodyOf Tryd.f81) := drP_of (by kernel_rfl)
theorem annulusref1_ShlInt.call : callable Tryd.prog 81 = true := by kernel_rfl
theorem annulusref1_Neg.ok : FnOK Tryd.prog 82 10 (bodyOf Tryd.f82) [.cell 2 33] := ⟨mix, Tryd.f82, Tryd.func82, rfl, rfl, rfl⟩
theorem annulusref1_Neg.dr : drP (bodyOf Tryd.f82) := drP_of (by kernel_rfl)
theorem annulusref1_Neg.call : callable Tryd.prog 82 = true := by kernel_rfl
theorem annulusref1_SameInt.ok : FnOK Tryd.prog 83 17 (bodyOf Tryd.f83) [.tmp 4] := ⟨mix, Tryd.f83, Tryd.func83, rfl, rfl, rfl⟩
theorem annulusref1_SameInt.dr : drP (bodyOf Tryd.f83) := drP_of (by kernel_rfl)
theorem annulusref1_SameInt.call : callable Tryd.prog 83 = true := by kernel_rfl
theorem annulusref4_Make.ok : FnOK Tryd.prog 84 30 (bodyOf Tryd.f84) [.cell 4 35] := ⟨mix, Tryd.f84, Tryd.func84, rfl, rfl, rfl⟩
theorem annulusref4_Make.dr : drP (bodyOf Tryd.f84) := drP_of (by kernel_rfl)
theorem annulusref4_Make.call : callable Tryd.prog 84 = true := by kernel_rfl
theorem annulusref1_Of.ok : FnOK Tryd.prog 85 20 (bodyOf Tryd.f85) [.cell 2 33] := ⟨mix, Tryd.f85, Tryd.func85, rfl, rfl, rfl⟩
theorem annulusref1_Of.dr : drP (bodyOf Tryd.f85) := drP_of (by kernel_rfl)
theorem annulusref1_Of.call : callable Tryd.prog 85 = true := by kernel_rfl
theorem dyad_Add.ok : FnOK Tryd.prog 86 40 (bodyOf Tryd.f86) [.cell 4 35] := ⟨mix, Tryd.f86, Tryd.func86, rfl, rfl, rfl⟩
theorem dyad_Add.dr : drP (bodyOf Tryd.f86) := drP_of (by kernel_rfl)
theorem dyad_Add.call : callable Tryd.prog 86 = true := by kernel_rfl
theorem dyad_Sub.ok : FnOK Tryd.prog 87 13 (bodyOf Tryd.f87) [.cell 4 35] := ⟨mix, Tryd.f87, Tryd.func87, rfl, rfl, rfl⟩
theorem dyad_Sub.dr : drP (bodyOf Tryd.f87) := drP_of (by kernel_rfl)
theorem dyad_Sub.call : callable Tryd.prog 87 = true := by kernel_rfl
theorem dyad_Mul.ok : FnOK Tryd.prog 88 18 (bodyOf Tryd.f88) [.cell 4 35] := ⟨mix, Tryd.f88, Tryd.func88, rfl, rfl, rfl⟩
theorem dyad_Mul.dr : drP (bodyOf Tryd.f88) := drP_of (by kernel_rfl)
theorem dyad_Mul.call : callable Tryd.prog 88 = true := by kernel_rfl
theorem whole_Of.ok : FnOK Tryd.prog 89 19 (bodyOf Tryd.f89) [.cell 2 33] := ⟨mix, Tryd.f89, Tryd.func89, rfl, rfl, rfl⟩
theorem whole_Of.dr : drP (bodyOf Tryd.f89) := drP_of (by kernel_rfl)
theorem whole_Of.call : callable Tryd.prog 89 = true := by kernel_rfl
theorem whole_Norm.ok : FnOK Tryd.prog 90 8 (bodyOf Tryd.f90) [.cell 2 33] := ⟨mix, Tryd.f90, Tryd.func90, rfl, rfl, rfl⟩
theorem whole_Norm.dr : drP (bodyOf Tryd.f90) := drP_of (by kernel_rfl)
theorem whole_Norm.call : callable Tryd.prog 90 = true := by kernel_rfl
theorem nat_Low.ok : FnOK Tryd.prog 91 20 (bodyOf Tryd.f91) [.tmp 2] := ⟨mix, Tryd.f91, Tryd.func91, rfl, rfl, rfl⟩
theorem nat_Low.dr : drP (bodyOf Tryd.f91) := drP_of (by kernel_rfl)
theorem nat_Low.call : callable Tryd.prog 91 = true := by kernel_rfl
theorem nat_Downwards.ok : FnOK Tryd.prog 92 53 (bodyOf Tryd.f92) [.tmp 4] := ⟨mix, Tryd.f92, Tryd.func92, rfl, rfl, rfl⟩
theorem nat_Downwards.dr : drP (bodyOf Tryd.f92) := drP_of (by kernel_rfl)
theorem nat_Downwards.call : callable Tryd.prog 92 = true := by kernel_rfl
theorem dyad_Sign.ok : FnOK Tryd.prog 93 6 (bodyOf Tryd.f93) [.tmp 2] := ⟨mix, Tryd.f93, Tryd.func93, rfl, rfl, rfl⟩
theorem dyad_Sign.dr : drP (bodyOf Tryd.f93) := drP_of (by kernel_rfl)
theorem dyad_Sign.call : callable Tryd.prog 93 = true := by kernel_rfl
theorem dyad_Scale.ok : FnOK Tryd.prog 94 14 (bodyOf Tryd.f94) [.cell 4 35] := ⟨mix, Tryd.f94, Tryd.func94, rfl, rfl, rfl⟩
theorem dyad_Scale.dr : drP (bodyOf Tryd.f94) := drP_of (by kernel_rfl)
theorem dyad_Scale.call : callable Tryd.prog 94 = true := by kernel_rfl
theorem whole_Neg.ok : FnOK Tryd.prog 95 9 (bodyOf Tryd.f95) [.cell 2 33] := ⟨mix, Tryd.f95, Tryd.func95, rfl, rfl, rfl⟩
theorem whole_Neg.dr : drP (bodyOf Tryd.f95) := drP_of (by kernel_rfl)
theorem whole_Neg.call : callable Tryd.prog 95 = true := by kernel_rfl
theorem dyad_kept.ok : FnOK Tryd.prog 96 6 (bodyOf Tryd.f96) [.tmp 2] := ⟨mix, Tryd.f96, Tryd.func96, rfl, rfl, rfl⟩
theorem dyad_kept.dr : drP (bodyOf Tryd.f96) := drP_of (by kernel_rfl)
theorem dyad_kept.call : callable Tryd.prog 96 = true := by kernel_rfl
theorem annulusref1_Norm.ok : FnOK Tryd.prog 97 16 (bodyOf Tryd.f97) [.cell 2 33] := ⟨mix, Tryd.f97, Tryd.func97, rfl, rfl, rfl⟩
theorem annulusref1_Norm.dr : drP (bodyOf Tryd.f97) := drP_of (by kernel_rfl)
theorem annulusref1_Norm.call : callable Tryd.prog 97 = true := by kernel_rfl
theorem annulusref1_Low.ok : FnOK Tryd.prog 98 17 (bodyOf Tryd.f98) [.tmp 2] := ⟨mix, Tryd.f98, Tryd.func98, rfl, rfl, rfl⟩
theorem annulusref1_Low.dr : drP (bodyOf Tryd.f98) := drP_of (by kernel_rfl)
theorem annulusref1_Low.call : callable Tryd.prog 98 = true := by kernel_rfl
theorem annulusref1_Shr.ok : FnOK Tryd.prog 99 49 (bodyOf Tryd.f99) [.tmp 4] := ⟨mix, Tryd.f99, Tryd.func99, rfl, rfl, rfl⟩
theorem annulusref1_Shr.dr : drP (bodyOf Tryd.f99) := drP_of (by kernel_rfl)
theorem annulusref1_Shr.call : callable Tryd.prog 99 = true := by kernel_rfl
theorem annulusref1_Mul.ok : FnOK Tryd.prog 100 68 (bodyOf Tryd.f100) [.tmp 4] := ⟨mix, Tryd.f100, Tryd.func100, rfl, rfl, rfl⟩
theorem annulusref1_Mul.dr : drP (bodyOf Tryd.f100) := drP_of (by kernel_rfl)
theorem annulusref1_Mul.call : callable Tryd.prog 100 = true := by kernel_rfl
theorem annulusref1_Add.ok : FnOK Tryd.prog 101 40 (bodyOf Tryd.f101) [.tmp 4] := ⟨mix, Tryd.f101, Tryd.func101, rfl, rfl, rfl⟩
theorem annulusref1_Add.dr : drP (bodyOf Tryd.f101) := drP_of (by kernel_rfl)
theorem annulusref1_Add.call : callable Tryd.prog 101 = true := by kernel_rfl
theorem annulusref1_Sub.ok : FnOK Tryd.prog 102 41 (bodyOf Tryd.f102) [.tmp 4, .tmp 5] := ⟨mix, Tryd.f102, Tryd.func102, rfl, rfl, rfl⟩
theorem annulusref1_Sub.dr : drP (bodyOf Tryd.f102) := drP_of (by kernel_rfl)
theorem annulusref1_Sub.call : callable Tryd.prog 102 = true := by kernel_rfl
theorem annulusref1_Shl.ok : FnOK Tryd.prog 103 62 (bodyOf Tryd.f103) [.tmp 4] := ⟨mix, Tryd.f103, Tryd.func103, rfl, rfl, rfl⟩
theorem annulusref1_Shl.dr : drP (bodyOf Tryd.f103) := drP_of (by kernel_rfl)
theorem annulusref1_Shl.call : callable Tryd.prog 103 = true := by kernel_rfl
theorem annulusref1_Trim.ok : FnOK Tryd.prog 104 21 (bodyOf Tryd.f104) [.tmp 2] := ⟨mix, Tryd.f104, Tryd.func104, rfl, rfl, rfl⟩
theorem annulusref1_Trim.dr : drP (bodyOf Tryd.f104) := drP_of (by kernel_rfl)
theorem annulusref1_Trim.call : callable Tryd.prog 104 = true := by kernel_rfl
theorem annulusref1_Same.ok : FnOK Tryd.prog 105 26 (bodyOf Tryd.f105) [.tmp 4] := ⟨mix, Tryd.f105, Tryd.func105, rfl, rfl, rfl⟩
theorem annulusref1_Same.dr : drP (bodyOf Tryd.f105) := drP_of (by kernel_rfl)
theorem annulusref1_Same.call : callable Tryd.prog 105 = true := by kernel_rfl
theorem dyad_of.ok : FnOK Tryd.prog 106 9 (bodyOf Tryd.f106) [.cell 2 35] := ⟨mix, Tryd.f106, Tryd.func106, rfl, rfl, rfl⟩
theorem dyad_of.dr : drP (bodyOf Tryd.f106) := drP_of (by kernel_rfl)
theorem dyad_of.call : callable Tryd.prog 106 = true := by kernel_rfl
theorem whole_Add.ok : FnOK Tryd.prog 107 47 (bodyOf Tryd.f107) [.cell 4 33] := ⟨mix, Tryd.f107, Tryd.func107, rfl, rfl, rfl⟩
theorem whole_Add.dr : drP (bodyOf Tryd.f107) := drP_of (by kernel_rfl)
theorem whole_Add.call : callable Tryd.prog 107 = true := by kernel_rfl
theorem whole_Up.ok : FnOK Tryd.prog 108 12 (bodyOf Tryd.f108) [.cell 4 33] := ⟨mix, Tryd.f108, Tryd.func108, rfl, rfl, rfl⟩
theorem whole_Up.dr : drP (bodyOf Tryd.f108) := drP_of (by kernel_rfl)
theorem whole_Up.call : callable Tryd.prog 108 = true := by kernel_rfl
theorem whole_Mul.ok : FnOK Tryd.prog 109 16 (bodyOf Tryd.f109) [.cell 4 33] := ⟨mix, Tryd.f109, Tryd.func109, rfl, rfl, rfl⟩
theorem whole_Mul.dr : drP (bodyOf Tryd.f109) := drP_of (by kernel_rfl)
theorem whole_Mul.call : callable Tryd.prog 109 = true := by kernel_rfl
theorem whole_with.ok : FnOK Tryd.prog 110 15 (bodyOf Tryd.f110) [.cell 4 33] := ⟨mix, Tryd.f110, Tryd.func110, rfl, rfl, rfl⟩
theorem whole_with.dr : drP (bodyOf Tryd.f110) := drP_of (by kernel_rfl)
theorem whole_with.call : callable Tryd.prog 110 = true := by kernel_rfl
theorem math_bits_TrailingZeros32.ok : FnOK Tryd.prog 111 14 (bodyOf Tryd.f111) [.tmp 2] := ⟨mix, Tryd.f111, Tryd.func111, rfl, rfl, rfl⟩
theorem math_bits_TrailingZeros32.dr : drP (bodyOf Tryd.f111) := drP_of (by kernel_rfl)
theorem math_bits_TrailingZeros32.call : callable Tryd.prog 111 = true := by kernel_rfl
theorem nat_cut.ok : FnOK Tryd.prog 112 21 (bodyOf Tryd.f112) [.tmp 2] := ⟨mix, Tryd.f112, Tryd.func112, rfl, rfl, rfl⟩
theorem nat_cut.dr : drP (bodyOf Tryd.f112) := drP_of (by kernel_rfl)
theorem nat_cut.call : callable Tryd.prog 112 = true := by kernel_rfl
theorem nat_at.ok : FnOK Tryd.prog 113 18 (bodyOf Tryd.f113) [.tmp 4] := ⟨mix, Tryd.f113, Tryd.func113, rfl, rfl, rfl⟩
theorem nat_at.dr : drP (bodyOf Tryd.f113) := drP_of (by kernel_rfl)
theorem nat_at.call : callable Tryd.prog 113 = true := by kernel_rfl
theorem whole_Sign.ok : FnOK Tryd.prog 114 19 (bodyOf Tryd.f114) [.tmp 2] := ⟨mix, Tryd.f114, Tryd.func114, rfl, rfl, rfl⟩
theorem whole_Sign.dr : drP (bodyOf Tryd.f114) := drP_of (by kernel_rfl)
theorem whole_Sign.call : callable Tryd.prog 114 = true := by kernel_rfl
theorem dyad_held.ok : FnOK Tryd.prog 115 6 (bodyOf Tryd.f115) [.tmp 2] := ⟨mix, Tryd.f115, Tryd.func115, rfl, rfl, rfl⟩
theorem dyad_held.dr : drP (bodyOf Tryd.f115) := drP_of (by kernel_rfl)
theorem dyad_held.call : callable Tryd.prog 115 = true := by kernel_rfl
theorem annulusref1_Bit.ok : FnOK Tryd.prog 116 27 (bodyOf Tryd.f116) [.tmp 4] := ⟨mix, Tryd.f116, Tryd.func116, rfl, rfl, rfl⟩
theorem annulusref1_Bit.dr : drP (bodyOf Tryd.f116) := drP_of (by kernel_rfl)
theorem annulusref1_Bit.call : callable Tryd.prog 116 = true := by kernel_rfl
theorem annulusref1_at.ok : FnOK Tryd.prog 117 14 (bodyOf Tryd.f117) [.tmp 4] := ⟨mix, Tryd.f117, Tryd.func117, rfl, rfl, rfl⟩
theorem annulusref1_at.dr : drP (bodyOf Tryd.f117) := drP_of (by kernel_rfl)
theorem annulusref1_at.call : callable Tryd.prog 117 = true := by kernel_rfl
theorem annulusref1_Cmp.ok : FnOK Tryd.prog 118 47 (bodyOf Tryd.f118) [.tmp 4] := ⟨mix, Tryd.f118, Tryd.func118, rfl, rfl, rfl⟩
theorem annulusref1_Cmp.dr : drP (bodyOf Tryd.f118) := drP_of (by kernel_rfl)
theorem annulusref1_Cmp.call : callable Tryd.prog 118 = true := by kernel_rfl
theorem nat_Add.ok : FnOK Tryd.prog 119 39 (bodyOf Tryd.f119) [.tmp 4] := ⟨mix, Tryd.f119, Tryd.func119, rfl, rfl, rfl⟩
theorem nat_Add.dr : drP (bodyOf Tryd.f119) := drP_of (by kernel_rfl)
theorem nat_Add.call : callable Tryd.prog 119 = true := by kernel_rfl
theorem nat_Sub.ok : FnOK Tryd.prog 120 42 (bodyOf Tryd.f120) [.tmp 4, .tmp 5] := ⟨mix, Tryd.f120, Tryd.func120, rfl, rfl, rfl⟩
theorem nat_Sub.dr : drP (bodyOf Tryd.f120) := drP_of (by kernel_rfl)
theorem nat_Sub.call : callable Tryd.prog 120 = true := by kernel_rfl
theorem nat_Up.ok : FnOK Tryd.prog 121 55 (bodyOf Tryd.f121) [.tmp 4] := ⟨mix, Tryd.f121, Tryd.func121, rfl, rfl, rfl⟩
theorem nat_Up.dr : drP (bodyOf Tryd.f121) := drP_of (by kernel_rfl)
theorem nat_Up.call : callable Tryd.prog 121 = true := by kernel_rfl
theorem nat_Mul.ok : FnOK Tryd.prog 122 71 (bodyOf Tryd.f122) [.tmp 4] := ⟨mix, Tryd.f122, Tryd.func122, rfl, rfl, rfl⟩
theorem nat_Mul.dr : drP (bodyOf Tryd.f122) := drP_of (by kernel_rfl)
theorem nat_Mul.call : callable Tryd.prog 122 = true := by kernel_rfl
theorem nat_Trim.ok : FnOK Tryd.prog 123 6 (bodyOf Tryd.f123) [.tmp 2] := ⟨mix, Tryd.f123, Tryd.func123, rfl, rfl, rfl⟩
theorem nat_Trim.dr : drP (bodyOf Tryd.f123) := drP_of (by kernel_rfl)
theorem nat_Trim.call : callable Tryd.prog 123 = true := by kernel_rfl
theorem nat_Cmp.ok : FnOK Tryd.prog 124 47 (bodyOf Tryd.f124) [.tmp 4] := ⟨mix, Tryd.f124, Tryd.func124, rfl, rfl, rfl⟩
theorem nat_Cmp.dr : drP (bodyOf Tryd.f124) := drP_of (by kernel_rfl)
theorem nat_Cmp.call : callable Tryd.prog 124 = true := by kernel_rfl
theorem slices_Clone_uint32_uint32.ok : FnOK Tryd.prog 125 8 (bodyOf Tryd.f125) [.tmp 2] := ⟨mix, Tryd.f125, Tryd.func125, rfl, rfl, rfl⟩
theorem slices_Clone_uint32_uint32.dr : drP (bodyOf Tryd.f125) := drP_of (by kernel_rfl)
theorem slices_Clone_uint32_uint32.call : callable Tryd.prog 125 = true := by kernel_rfl
noncomputable def CT : Ctx := ⟨Tryd.prog, fun g => if g = 0 then some tab32 else none⟩
theorem CT_P : CT.P = Tryd.prog := rfl
theorem x_glob0 {l : List (Nat × AV)} : evalA CT.G l (.global 0) = .dp (tab32.map .v) 0 := rfl
attribute [go_sem] bodyOf aW1 x_skip x_label x_lins x_linsE x_getA0 x_getAs x_seq x_block x_exit x_goto x_ret x_then1 x_then2 x_then3 x_then4 x_blk1 x_blk2 x_blk3 x_blk4 x_region x_cond x_cond_dec x_cond_true x_cond_false x_CX x_RK x_GX x_GY x_nil x_plain x_guard x_guard_tt x_guard_ff x_guard_tf x_guard_ft x_guard_dt x_guard_un x_guard_df x_dst x_dst0 x_put x_put0 x_tmp x_const x_fnc x_look x_out1 x_out x_move x_assign x_pick x_pick_tt x_pick_ff x_pick_d x_alloc allocO x_box boxO cellsA x_build buildO fillA x_buildSlice buildSliceO x_load loadO x_loadF1 x_loadF0 x_store storeO x_nilCheck nilO x_binOp x_binOpI x_binOpB x_eqNil eqNilK x_add x_sub x_mul x_quo x_rem x_and x_or x_xor x_andNot x_shl x_shr x_eql x_neq x_lss x_leq x_gtr x_geq x_eqb x_neb x_unOp x_not x_notb x_neg x_convert convO x_make makeO x_slice sliceO x_bound0 x_bound1 boundV x_fieldAddr faddrO x_indexAddr iaddrO x_extract extractO x_field fieldO x_len lenO x_max x_min x_maxO x_minO x_append x_call gslot initSlots Ret retF resF CT_P List.getElem?_toArray List.getElem?_cons_zero List.getElem?_cons_succ Option.bind_some List.map_cons List.map_nil List.length_cons List.length_nil true_and and_true forall_const hd List.getD_cons_zero List.getD_cons_succ List.set_cons_zero List.set_cons_succ List.nil_append List.cons_append U32 decide_true decide_false gt_iff_lt ge_iff_le Nat.zero_add Nat.add_zero Nat.mul_one Nat.sub_zero List.drop_zero Int.toNat_natCast Int.toNat_zero Nat.zero_mul appF newsF zeros_u32s dead Int.le_refl Nat.le_refl List.replicate_zero snap_sl snap_own snap_int snap_bool snap_nil snap_agg snap_tup snap1_sl snap1_own snap1_int snap1_bool snap1_nil ownOK own1 List.mem_cons List.not_mem_nil or_false forall_eq_or_imp forall_eq snap0_u32s List.length_map length_u32s not_true_eq_false not_false_eq_true false_implies implies_true ne_eq Int.natCast_zero fzH fzArgs fzCells fz leaf_u32s take_u32s drop_u32s append_u32s List.take_zero List.take_length isD_u32 IntKind.bits x_m32 Bool.not_false Bool.not_true x_draw isD_v isD_nil isD_tup x_m63 x_m1 x_m1' x_rep1 x_rep2 x_fill1 x_fill2 x_fill2' List.length_replicate Nat.lt_irrefl or_self false_or
attribute [go_sem] tk2 tk3 tk4 tk5 tk6 tk7 tk8 tk12 tk21 tk22 tk31 tk32 tk33 tk34 tk35 tk36 tk37 tk51 tk53 tk57 tk81 tk82 tk83 tk89 tk90 tk94 tk95 tk96 tk98 tk99 tk102 tk103 fd7_0 fd7_1 fd7_2 fd7_3 fd8_0 fd8_1 fd8_2 fd8_3 fd32_0 fd32_1 fd33_0 fd33_1 fd34_0 fd34_1 fd35_0 fd35_1 fd36_0 fd36_1 fd37_0 fd37_1 fd95_0 fd96_0
end Go.Ab
